/- PoolStack: one take that goes on alone. -/
import Derived.Test.YtmghcelohnlceaaPoolRows
namespace Go.Proofs.Ytmghcelohnlceaa
open Go Go.Hx
set_option maxRecDepth 8000
def ctTk (A B : Int) (b1 b3 : Bool) : Nat → Option Hx.Spec
  | 13 => some (tkStepS A B b1 b3)
  | 63 => some (pureS rightS)
  | 40 => some (pureS pHeadS)
  | _ => none
theorem ctTk_ok (A B : Int) (b1 b3 : Bool) : ∀ f s args H ob V L, ctTk A B b1 b3 f = some s → s args H = some (ob, V, L) → AllP ob → Gives Try.prog f args H (Is V L) := by
  intro f s args H ob V L h hs ho
  unfold ctTk at h
  split at h
  · simp at h; subst h; exact tkStepS_ok hs ho
  · simp at h; subst h; exact pureS_ok ⟨_, hTE⟩ (rightS_ok right63) hs ho
  · simp at h; subst h; exact pureS_ok ⟨_, hTE⟩ (pHeadS_ok) hs ho
  · simp at h
noncomputable def XTk (A B : Int) (b1 b3 : Bool) : Tabs := tabs tr ft xt (fun _ => none) (ctTk A B b1 b3) 0
theorem hXTk (A B : Int) (b1 b3 : Bool) : TOk Try.prog (XTk A B b1 b3) := ⟨hTE, hFT, (ctTk_ok A B b1 b3), hXT, fun t ks h => by simp [XTk, tabs] at h, mixed⟩
def tyT0 : List (Nat × SV) := [(1, .ptr 0 0), (7, .ptr 2 0)]
def tyT (a : Nat) : List (Nat × SV) := [(1, .ptr 0 0), (7, .ptr 2 0), (8, .int .i64 (a : Int))]
def tyL (A B c : Int) (W : List Int) (st kd wd vl : Int) (ch : Bool) : Nat → List HE
  | 0 => [AOx 1 W st kd wd vl ch, WO W, .obj (phO A B 2 (.t1 c 0 0 0))]
  | 1 => [AOx 1 W (st + 1) 1 (3 + c) (W.getD (3 + c).toNat 0) false, WO W, .obj (phO A B 2 (.t2 c (W.getD (3 + c).toNat 0) ((W.getD (3 + c).toNat 0) % 4294967296) 0))]
  | 2 => [AOx 1 W (st + 1 + 1) 1 (bkP A B ((W.getD (3 + c).toNat 0) % 4294967296)) (W.getD (bkP A B ((W.getD (3 + c).toNat 0) % 4294967296)).toNat 0) false, WO W, .obj (phO A B 2 (.t3 c (W.getD (3 + c).toNat 0) ((W.getD (3 + c).toNat 0) % 4294967296) (W.getD (bkP A B ((W.getD (3 + c).toNat 0) % 4294967296)).toNat 0 % 4294967296)))]
  | _ + 3 => [AOx 1 (W.set (3 + c).toNat (turnV (W.getD (3 + c).toNat 0) (W.getD (bkP A B ((W.getD (3 + c).toNat 0) % 4294967296)).toNat 0 % 4294967296))) (st + 1 + 1 + 1) 3 (3 + c) (turnV (W.getD (3 + c).toNat 0) (W.getD (bkP A B ((W.getD (3 + c).toNat 0) % 4294967296)).toNat 0 % 4294967296)) true, WO (W.set (3 + c).toNat (turnV (W.getD (3 + c).toNat 0) (W.getD (bkP A B ((W.getD (3 + c).toNat 0) % 4294967296)).toNat 0 % 4294967296))), .obj (dnT A B c (W.getD (3 + c).toNat 0) ((W.getD (3 + c).toNat 0) % 4294967296) (W.getD (bkP A B ((W.getD (3 + c).toNat 0) % 4294967296)).toNat 0 % 4294967296))]
def tyN (A B c : Int) (W : List Int) (st kd wd vl : Int) (ch : Bool) : Nat → List HE
  | 0 => [AOx 1 W st kd wd vl ch, WO W, .obj (phO A B 2 (.t1 c 0 0 0))]
  | _ + 1 => [AOx 1 W (st + 1) 1 (3 + c) (W.getD (3 + c).toNat 0) false, WO W, .obj (dnT A B c (W.getD (3 + c).toNat 0) 0 0)]
set_option maxHeartbeats 16000000 in
theorem takenn_fnl {A B c : Int} {W : List Int} {st kd wd vl : Int} {ch : Bool} {ρ : Nat → Nat × Nat} {w : World} (hr : rightB 1 4 1 2 4 A 6 B 2 = true) (hl2 : (W.length : Int) = 16 + A * 5 + B * 7) (hst0 : 0 ≤ st) (hs9 : st < 900000) (bd : ∀ j, 0 ≤ W.getD j 0 ∧ W.getD j 0 < 18446744073709551616) (hc : 0 ≤ c ∧ c ≤ 1) (h : ¬ classV A B ((W.getD (3 + c).toNat 0) % 4294967296) = c) :
    SS (hXTk A B false true) (At ρ w) (Is (.int .i64 0) [AO 1 (ldA ⟨W, st, kd, wd, vl, ch⟩ (3 + c)), WO W]) ⟨[], [], Try.f20, Try.f20.ntmps, [AO 1 ⟨W, st, kd, wd, vl, ch⟩, WO W], contF Try.f20 2 [], tyT0, tyN A B c W st kd wd vl ch 0⟩ := by
  have hXq := hXTk A B false true
  refine sxb hXq [.l] [] 4000 rfl (by first | exact trivial | simp [conjP]) ?_
  refine ss_sub hXq (T' := tyT 0) (H' := tyN A B c W st kd wd vl ch 0) [0, 1, 2] rfl rfl rfl rfl (by (repeat' (first | exact rfl | exact trivial | exact sim_refl _ | refine And.intro ?_ ?_))) (by (repeat' (first | exact rfl | exact trivial | exact sim_refl _ | refine And.intro ?_ ?_))) (by (repeat' (first | exact rfl | exact trivial | exact sim_refl _ | refine And.intro ?_ ?_))) (by (repeat' (first | exact rfl | exact trivial | exact sim_refl _ | refine And.intro ?_ ?_))) ?_
  refine ss_loop hXq (fun i => tyT i) (fun i => tyN A B c W st kd wd vl ch i) (fun i => i ≤ 3) (fun i => 3 - i) 0 (by decide) ?_
  rintro i hi I back
  have ewi : IntKind.i64.wrap ((i : Int) + 1) = ((i + 1 : Nat) : Int) := by rw [wi64 (by omega) (by omega)]; omega
  rcases i with _ | i
  · dsimp only [tyT, tyN, phO, tkO, dnT]
    refine sx hXq [] 4000 rfl (by (simp [-List.getD_eq_getElem?_getD, -List.length_eq_zero_iff, conjP] <;> (first | omega | ((repeat' (refine And.intro ?_ ?_)) <;> (first | omega | exact decide_eq_false (by omega) | exact decide_eq_true (by omega)))))) ?_
    refine sx hXq [.T] 4000 rfl (by (simp [-List.getD_eq_getElem?_getD, -List.length_eq_zero_iff, conjP, hr, hl2, bd, hc, h, hst0, tkO, phO] <;> (first | omega | ((repeat' (refine And.intro ?_ ?_)) <;> (first | omega | exact decide_eq_false (by omega) | exact decide_eq_true (by omega)))))) ?_
    (refine back 1 (by omega) (by omega) _ _ _ (sub_of [0, 1, 2] rfl rfl rfl rfl ?tt ?hh (by (repeat' (first | exact rfl | exact trivial | exact sim_refl _ | refine And.intro ?_ ?_))) (by (repeat' (first | exact rfl | exact trivial | exact sim_refl _ | refine And.intro ?_ ?_)))); (case tt => exact ⟨by (repeat' (first | exact rfl | exact trivial | exact sim_refl _ | refine And.intro ?_ ?_)), by (repeat' (first | exact rfl | exact trivial | exact sim_refl _ | refine And.intro ?_ ?_)), ⟨rfl, ewi⟩, trivial⟩); (case hh => (repeat' (first | exact rfl | exact trivial | exact sim_refl _ | refine And.intro ?_ ?_))))
  · by_cases h3 : i < 2
    · have h3' : ((i + 1 : Nat) : Int) < 3 := by omega
      dsimp only [tyT, tyN, phO, tkO, dnT]
      refine sx hXq [] 4000 rfl (by (simp [-List.getD_eq_getElem?_getD, -List.length_eq_zero_iff, conjP] <;> (first | omega | ((repeat' (refine And.intro ?_ ?_)) <;> (first | omega | exact decide_eq_false (by omega) | exact decide_eq_true (by omega)))))) ?_
      refine sx hXq [.T] 4000 rfl (by (simp [-List.getD_eq_getElem?_getD, -List.length_eq_zero_iff, conjP, dnT, tkO] <;> (first | omega | ((repeat' (refine And.intro ?_ ?_)) <;> (first | omega | exact decide_eq_false (by omega) | exact decide_eq_true (by omega)))))) ?_
      (refine back (i + 2) (by omega) (by omega) _ _ _ (sub_of [0, 1, 2] rfl rfl rfl rfl ?tt ?hh (by (repeat' (first | exact rfl | exact trivial | exact sim_refl _ | refine And.intro ?_ ?_))) (by (repeat' (first | exact rfl | exact trivial | exact sim_refl _ | refine And.intro ?_ ?_)))); (case tt => exact ⟨by (repeat' (first | exact rfl | exact trivial | exact sim_refl _ | refine And.intro ?_ ?_)), by (repeat' (first | exact rfl | exact trivial | exact sim_refl _ | refine And.intro ?_ ?_)), ⟨rfl, ewi⟩, trivial⟩); (case hh => (repeat' (first | exact rfl | exact trivial | exact sim_refl _ | refine And.intro ?_ ?_))))
    · have h3' : ¬ ((i + 1 : Nat) : Int) < 3 := by omega
      dsimp only [tyT, tyN, dnT, tkO]
      refine sx hXq [] 4000 rfl (by (simp [-List.getD_eq_getElem?_getD, -List.length_eq_zero_iff, conjP] <;> (first | omega | ((repeat' (refine And.intro ?_ ?_)) <;> (first | omega | exact decide_eq_false (by omega) | exact decide_eq_true (by omega)))))) ?_
      refine sx hXq [.F] 4000 rfl (by (simp [-List.getD_eq_getElem?_getD, -List.length_eq_zero_iff, conjP, addOP] <;> (first | omega | ((repeat' (refine And.intro ?_ ?_)) <;> (first | omega | exact decide_eq_false (by omega) | exact decide_eq_true (by omega)))))) ?_
      (exact ss_end hXq [0, 1] rfl rfl trivial rfl rfl rfl rfl (by ((first | ((repeat' (first | exact rfl | exact trivial | exact sim_refl _ | refine And.intro ?_ ?_)); done) | (simp [tupF, SV.ren, sim, simO0]; done)))) (by (repeat' (first | exact rfl | exact trivial | exact sim_refl _ | refine And.intro ?_ ?_))) (by (repeat' (first | exact rfl | exact trivial | exact sim_refl _ | refine And.intro ?_ ?_))) (by (repeat' (first | exact rfl | exact trivial | exact sim_refl _ | refine And.intro ?_ ?_))))
set_option maxHeartbeats 16000000 in
theorem takeny_fnl {A B c : Int} {W : List Int} {st kd wd vl : Int} {ch : Bool} {ρ : Nat → Nat × Nat} {w : World} (hr : rightB 1 4 1 2 4 A 6 B 2 = true) (hl2 : (W.length : Int) = 16 + A * 5 + B * 7) (hst0 : 0 ≤ st) (hs9 : st < 900000) (bd : ∀ j, 0 ≤ W.getD j 0 ∧ W.getD j 0 < 18446744073709551616) (hc : 0 ≤ c ∧ c ≤ 1) (h : classV A B ((W.getD (3 + c).toNat 0) % 4294967296) = c) :
    SS (hXTk A B true true) (At ρ w) (Is (.int .i64 ((W.getD (3 + c).toNat 0) % 4294967296)) [AOx 1 (W.set (3 + c).toNat (turnV (W.getD (3 + c).toNat 0) (W.getD (bkP A B ((W.getD (3 + c).toNat 0) % 4294967296)).toNat 0 % 4294967296))) (st + 1 + 1 + 1) 3 (3 + c) (turnV (W.getD (3 + c).toNat 0) (W.getD (bkP A B ((W.getD (3 + c).toNat 0) % 4294967296)).toNat 0 % 4294967296)) true, WO (W.set (3 + c).toNat (turnV (W.getD (3 + c).toNat 0) (W.getD (bkP A B ((W.getD (3 + c).toNat 0) % 4294967296)).toNat 0 % 4294967296)))]) ⟨[], [], Try.f20, Try.f20.ntmps, [AO 1 ⟨W, st, kd, wd, vl, ch⟩, WO W], contF Try.f20 2 [], tyT0, tyL A B c W st kd wd vl ch 0⟩ := by
  have hXq := hXTk A B true true
  refine sxb hXq [.l] [] 4000 rfl (by first | exact trivial | simp [conjP]) ?_
  refine ss_sub hXq (T' := tyT 0) (H' := tyL A B c W st kd wd vl ch 0) [0, 1, 2] rfl rfl rfl rfl (by (repeat' (first | exact rfl | exact trivial | exact sim_refl _ | refine And.intro ?_ ?_))) (by (repeat' (first | exact rfl | exact trivial | exact sim_refl _ | refine And.intro ?_ ?_))) (by (repeat' (first | exact rfl | exact trivial | exact sim_refl _ | refine And.intro ?_ ?_))) (by (repeat' (first | exact rfl | exact trivial | exact sim_refl _ | refine And.intro ?_ ?_))) ?_
  refine ss_loop hXq (fun i => tyT i) (fun i => tyL A B c W st kd wd vl ch i) (fun i => i ≤ 3) (fun i => 3 - i) 0 (by decide) ?_
  rintro i hi I back
  have ewi : IntKind.i64.wrap ((i : Int) + 1) = ((i + 1 : Nat) : Int) := by rw [wi64 (by omega) (by omega)]; omega
  rcases i with _ | _ | _ | i
  · dsimp only [tyT, tyL, phO, tkO, dnT]
    refine sx hXq [] 4000 rfl (by (simp [-List.getD_eq_getElem?_getD, -List.length_eq_zero_iff, conjP] <;> (first | omega | ((repeat' (refine And.intro ?_ ?_)) <;> (first | omega | exact decide_eq_false (by omega) | exact decide_eq_true (by omega)))))) ?_
    refine sx hXq [.T] 4000 rfl (by (simp [-List.getD_eq_getElem?_getD, -List.length_eq_zero_iff, conjP, hr, hl2, bd, hc, h, hst0, tkO, phO] <;> (first | omega | ((repeat' (refine And.intro ?_ ?_)) <;> (first | omega | exact decide_eq_false (by omega) | exact decide_eq_true (by omega)))))) ?_
    (refine back 1 (by omega) (by omega) _ _ _ (sub_of [0, 1, 2] rfl rfl rfl rfl ?tt ?hh (by (repeat' (first | exact rfl | exact trivial | exact sim_refl _ | refine And.intro ?_ ?_))) (by (repeat' (first | exact rfl | exact trivial | exact sim_refl _ | refine And.intro ?_ ?_)))); (case tt => exact ⟨by (repeat' (first | exact rfl | exact trivial | exact sim_refl _ | refine And.intro ?_ ?_)), by (repeat' (first | exact rfl | exact trivial | exact sim_refl _ | refine And.intro ?_ ?_)), ⟨rfl, ewi⟩, trivial⟩); (case hh => (repeat' (first | exact rfl | exact trivial | exact sim_refl _ | refine And.intro ?_ ?_))))
  · dsimp only [tyT, tyL, phO, tkO, dnT]
    refine sx hXq [] 4000 rfl (by (simp [-List.getD_eq_getElem?_getD, -List.length_eq_zero_iff, conjP] <;> (first | omega | ((repeat' (refine And.intro ?_ ?_)) <;> (first | omega | exact decide_eq_false (by omega) | exact decide_eq_true (by omega)))))) ?_
    refine sx hXq [.T] 4000 rfl (by (simp [-List.getD_eq_getElem?_getD, -List.length_eq_zero_iff, conjP, hr, hl2, bd, hc, h, tkO, phO] <;> (first | omega | ((repeat' (refine And.intro ?_ ?_)) <;> (first | omega | exact decide_eq_false (by omega) | exact decide_eq_true (by omega)))))) ?_
    (refine back 2 (by omega) (by omega) _ _ _ (sub_of [0, 1, 2] rfl rfl rfl rfl ?tt ?hh (by (repeat' (first | exact rfl | exact trivial | exact sim_refl _ | refine And.intro ?_ ?_))) (by (repeat' (first | exact rfl | exact trivial | exact sim_refl _ | refine And.intro ?_ ?_)))); (case tt => exact ⟨by (repeat' (first | exact rfl | exact trivial | exact sim_refl _ | refine And.intro ?_ ?_)), by (repeat' (first | exact rfl | exact trivial | exact sim_refl _ | refine And.intro ?_ ?_)), ⟨rfl, ewi⟩, trivial⟩); (case hh => (repeat' (first | exact rfl | exact trivial | exact sim_refl _ | refine And.intro ?_ ?_))))
  · dsimp only [tyT, tyL, phO, tkO, dnT]
    refine sx hXq [] 4000 rfl (by (simp [-List.getD_eq_getElem?_getD, -List.length_eq_zero_iff, conjP] <;> (first | omega | ((repeat' (refine And.intro ?_ ?_)) <;> (first | omega | exact decide_eq_false (by omega) | exact decide_eq_true (by omega)))))) ?_
    refine sx hXq [.T] 4000 rfl (by (simp [-List.getD_eq_getElem?_getD, -List.length_eq_zero_iff, conjP, hr, hl2, bd, hc, tkO, phO] <;> (first | omega | ((repeat' (refine And.intro ?_ ?_)) <;> (first | omega | exact decide_eq_false (by omega) | exact decide_eq_true (by omega)))))) ?_
    (refine back 3 (by omega) (by omega) _ _ _ (sub_of [0, 1, 2] rfl rfl rfl rfl ?tt ?hh (by (repeat' (first | exact rfl | exact trivial | exact sim_refl _ | refine And.intro ?_ ?_))) (by (repeat' (first | exact rfl | exact trivial | exact sim_refl _ | refine And.intro ?_ ?_)))); (case tt => exact ⟨by (repeat' (first | exact rfl | exact trivial | exact sim_refl _ | refine And.intro ?_ ?_)), by (repeat' (first | exact rfl | exact trivial | exact sim_refl _ | refine And.intro ?_ ?_)), ⟨rfl, ewi⟩, trivial⟩); (case hh => (repeat' (first | exact rfl | exact trivial | exact sim_refl _ | refine And.intro ?_ ?_))))
  · have h3 : i = 0 := by omega
    subst h3
    dsimp only [tyT, tyL, dnT, tkO]
    refine sx hXq [] 4000 rfl (by (simp [-List.getD_eq_getElem?_getD, -List.length_eq_zero_iff, conjP] <;> (first | omega | ((repeat' (refine And.intro ?_ ?_)) <;> (first | omega | exact decide_eq_false (by omega) | exact decide_eq_true (by omega)))))) ?_
    refine sx hXq [.F] 4000 rfl (by (simp [-List.getD_eq_getElem?_getD, -List.length_eq_zero_iff, conjP, addOP] <;> (first | omega | ((repeat' (refine And.intro ?_ ?_)) <;> (first | omega | exact decide_eq_false (by omega) | exact decide_eq_true (by omega)))))) ?_
    (exact ss_end hXq [0, 1] rfl rfl trivial rfl rfl rfl rfl (by ((first | ((repeat' (first | exact rfl | exact trivial | exact sim_refl _ | refine And.intro ?_ ?_)); done) | (simp [tupF, SV.ren, sim, simO0]; done)))) (by (repeat' (first | exact rfl | exact trivial | exact sim_refl _ | refine And.intro ?_ ?_))) (by (repeat' (first | exact rfl | exact trivial | exact sim_refl _ | refine And.intro ?_ ?_))) (by (repeat' (first | exact rfl | exact trivial | exact sim_refl _ | refine And.intro ?_ ?_))))
section
variable {A B : Int} {s : Ar} {c : Int} (hw : WdP A B s) (hs9 : s.st < 900000) (hc : 0 ≤ c ∧ c ≤ 1)
include hw hs9 hc
set_option maxHeartbeats 16000000 in
theorem takenn_fn (h : ¬ classV A B ((s.W.getD (3 + c).toNat 0) % 4294967296) = c) : Gives Try.prog 20 [C9 1 4 1 2 4 A 6 B 2, .ptr 0 0, .int .i64 c] [AO 1 s, WO s.W] (Is (.int .i64 0) [AO 1 (ldA s (3 + c)), WO (ldA s (3 + c)).W]) := by
  obtain ⟨W, st, kd, wd, vl, ch⟩ := s
  have hr := hw.hr
  have hl := hw.ln
  have hl2 := hl.2
  rw [szP_eq] at hl2
  have hst0 := hw.st0
  have hst1 := hw.st1
  have bd := hw.bd
  dsimp only [Ar.W, Ar.st] at *
  have hXq := hXTk A B false true
  refine gives_x hXq (fn := Try.f20) rfl rfl rfl rfl fun ρ w => ?_
  refine sxb hXq [.r 2] [] 4000 rfl (by (simp [-List.getD_eq_getElem?_getD, -List.length_eq_zero_iff, conjP] <;> (first | omega | ((repeat' (refine And.intro ?_ ?_)) <;> (first | omega | exact decide_eq_false (by omega) | exact decide_eq_true (by omega)))))) ?_
  refine sxb hXq [.r 2] [.F] 4000 rfl (by (simp [-List.getD_eq_getElem?_getD, -List.length_eq_zero_iff, conjP, hr, hc] <;> (first | omega | ((repeat' (refine And.intro ?_ ?_)) <;> (first | omega | exact decide_eq_false (by omega) | exact decide_eq_true (by omega)))))) ?_
  refine sxb hXq [.r 2] [.F] 4000 rfl (by (simp [-List.getD_eq_getElem?_getD, -List.length_eq_zero_iff, conjP, getH, HE.so, hc] <;> (first | omega | ((repeat' (refine And.intro ?_ ?_)) <;> (first | omega | exact decide_eq_false (by omega) | exact decide_eq_true (by omega)))))) ?_
  (refine ss_sub hXq (T' := tyT0) (H' := tyN A B c W st kd wd vl ch 0) [0, 1, 5] rfl rfl rfl rfl (by (repeat' (first | exact rfl | exact trivial | exact sim_refl _ | refine And.intro ?_ ?_))) (by (repeat' (first | exact rfl | exact trivial | exact sim_refl _ | refine And.intro ?_ ?_))) (by (repeat' (first | exact rfl | exact trivial | exact sim_refl _ | refine And.intro ?_ ?_))) (by (repeat' (first | exact rfl | exact trivial | exact sim_refl _ | refine And.intro ?_ ?_))) ?_; exact takenn_fnl hr hl2 hst0 hs9 bd hc h)
set_option maxHeartbeats 16000000 in
theorem takeny_fn (h : classV A B ((s.W.getD (3 + c).toNat 0) % 4294967296) = c) : Gives Try.prog 20 [C9 1 4 1 2 4 A 6 B 2, .ptr 0 0, .int .i64 c] [AO 1 s, WO s.W] (Is (.int .i64 ((s.W.getD (3 + c).toNat 0) % 4294967296)) [AOx 1 (s.W.set (3 + c).toNat (turnV (s.W.getD (3 + c).toNat 0) (s.W.getD (bkP A B ((s.W.getD (3 + c).toNat 0) % 4294967296)).toNat 0 % 4294967296))) (s.st + 1 + 1 + 1) 3 (3 + c) (turnV (s.W.getD (3 + c).toNat 0) (s.W.getD (bkP A B ((s.W.getD (3 + c).toNat 0) % 4294967296)).toNat 0 % 4294967296)) true, WO (s.W.set (3 + c).toNat (turnV (s.W.getD (3 + c).toNat 0) (s.W.getD (bkP A B ((s.W.getD (3 + c).toNat 0) % 4294967296)).toNat 0 % 4294967296)))]) := by
  obtain ⟨W, st, kd, wd, vl, ch⟩ := s
  have hr := hw.hr
  have hl := hw.ln
  have hl2 := hl.2
  rw [szP_eq] at hl2
  have hst0 := hw.st0
  have hst1 := hw.st1
  have bd := hw.bd
  dsimp only [Ar.W, Ar.st] at *
  have hXq := hXTk A B true true
  refine gives_x hXq (fn := Try.f20) rfl rfl rfl rfl fun ρ w => ?_
  refine sxb hXq [.r 2] [] 4000 rfl (by (simp [-List.getD_eq_getElem?_getD, -List.length_eq_zero_iff, conjP] <;> (first | omega | ((repeat' (refine And.intro ?_ ?_)) <;> (first | omega | exact decide_eq_false (by omega) | exact decide_eq_true (by omega)))))) ?_
  refine sxb hXq [.r 2] [.F] 4000 rfl (by (simp [-List.getD_eq_getElem?_getD, -List.length_eq_zero_iff, conjP, hr, hc] <;> (first | omega | ((repeat' (refine And.intro ?_ ?_)) <;> (first | omega | exact decide_eq_false (by omega) | exact decide_eq_true (by omega)))))) ?_
  refine sxb hXq [.r 2] [.F] 4000 rfl (by (simp [-List.getD_eq_getElem?_getD, -List.length_eq_zero_iff, conjP, getH, HE.so, hc] <;> (first | omega | ((repeat' (refine And.intro ?_ ?_)) <;> (first | omega | exact decide_eq_false (by omega) | exact decide_eq_true (by omega)))))) ?_
  (refine ss_sub hXq (T' := tyT0) (H' := tyL A B c W st kd wd vl ch 0) [0, 1, 5] rfl rfl rfl rfl (by (repeat' (first | exact rfl | exact trivial | exact sim_refl _ | refine And.intro ?_ ?_))) (by (repeat' (first | exact rfl | exact trivial | exact sim_refl _ | refine And.intro ?_ ?_))) (by (repeat' (first | exact rfl | exact trivial | exact sim_refl _ | refine And.intro ?_ ?_))) (by (repeat' (first | exact rfl | exact trivial | exact sim_refl _ | refine And.intro ?_ ?_))) ?_; exact takeny_fnl hr hl2 hst0 hs9 bd hc h)
end
/-- One take that goes on alone; b1: there is a block. -/
def takenS (A B : Int) (b1 : Bool) : Hx.Spec := fun args H => match args with
  | [.agg [.int .i64 x0, .int .i64 x1, .int .i64 x2, .int .i64 x3, .int .i64 x4, .int .i64 x5, .int .i64 x6, .int .i64 x7, .int .i64 x8], .ptr h 0, .int .i64 c] => match arP H h with
    | some (hw, ⟨W, st, _kd, _wd, _vl, _ch⟩, ob) => match b1 with
      | true => some (([x0, x1, x2, x3, x4, x5, x6, x7, x8] = [1, 4, 1, 2, 4, A, 6, B, 2]) :: (rightB 1 4 1 2 4 A 6 B 2 = true) :: ((W.length : Int) = 16 + A * 5 + B * 7) :: (0 ≤ st) :: (st < 900000) :: (∀ j, 0 ≤ W.getD j 0 ∧ W.getD j 0 < 18446744073709551616) :: (0 ≤ c ∧ c ≤ 1) :: (classV A B (W.getD (3 + c).toNat 0 % 4294967296) = c) :: ob, .int .i64 (W.getD (3 + c).toNat 0 % 4294967296),
          (H.set h (AOx hw (W.set (3 + c).toNat (turnV (W.getD (3 + c).toNat 0) (W.getD (bkP A B (W.getD (3 + c).toNat 0 % 4294967296)).toNat 0 % 4294967296))) (st + 1 + 1 + 1) 3 (3 + c) (turnV (W.getD (3 + c).toNat 0) (W.getD (bkP A B (W.getD (3 + c).toNat 0 % 4294967296)).toNat 0 % 4294967296)) true)).set hw (WO (W.set (3 + c).toNat (turnV (W.getD (3 + c).toNat 0) (W.getD (bkP A B (W.getD (3 + c).toNat 0 % 4294967296)).toNat 0 % 4294967296)))))
      | false => some (([x0, x1, x2, x3, x4, x5, x6, x7, x8] = [1, 4, 1, 2, 4, A, 6, B, 2]) :: (rightB 1 4 1 2 4 A 6 B 2 = true) :: ((W.length : Int) = 16 + A * 5 + B * 7) :: (0 ≤ st) :: (st < 900000) :: (∀ j, 0 ≤ W.getD j 0 ∧ W.getD j 0 < 18446744073709551616) :: (0 ≤ c ∧ c ≤ 1) :: (¬ classV A B (W.getD (3 + c).toNat 0 % 4294967296) = c) :: ob, .int .i64 0,
          (H.set h (AOx hw W (st + 1) 1 (3 + c) (W.getD (3 + c).toNat 0) false)).set hw (WO W))
    | none => none
  | _ => none
theorem takenS_ok {A B : Int} {b1 : Bool} {args : List SV} {H : List HE} {ob : List Prop} {V : SV} {L : List HE} (hs : takenS A B b1 args H = some (ob, V, L)) (ho : AllP ob) : Gives Try.prog 20 args H (Is V L) := by
  unfold takenS at hs
  split at hs
  case h_2 => simp at hs
  rename_i _ x0 x1 x2 x3 x4 x5 x6 x7 x8 h c
  split at hs
  case h_2 => simp at hs
  rename_i _ hw W st kd wd vl ch ob' hp
  split at hs
  · simp only [Option.some.injEq, Prod.mk.injEq] at hs
    obtain ⟨rfl, rfl, rfl⟩ := hs
    have e0 := ho _ (List.mem_cons_self ..)
    have w1 := ho _ (List.mem_cons_of_mem _ (List.mem_cons_self ..))
    have w2 := ho _ (List.mem_cons_of_mem _ (List.mem_cons_of_mem _ (List.mem_cons_self ..)))
    have w3 := ho _ (List.mem_cons_of_mem _ (List.mem_cons_of_mem _ (List.mem_cons_of_mem _ (List.mem_cons_self ..))))
    have w4 := ho _ (List.mem_cons_of_mem _ (List.mem_cons_of_mem _ (List.mem_cons_of_mem _ (List.mem_cons_of_mem _ (List.mem_cons_self ..)))))
    have w5 := ho _ (List.mem_cons_of_mem _ (List.mem_cons_of_mem _ (List.mem_cons_of_mem _ (List.mem_cons_of_mem _ (List.mem_cons_of_mem _ (List.mem_cons_self ..))))))
    have e3 := ho _ (List.mem_cons_of_mem _ (List.mem_cons_of_mem _ (List.mem_cons_of_mem _ (List.mem_cons_of_mem _ (List.mem_cons_of_mem _ (List.mem_cons_of_mem _ (List.mem_cons_self ..)))))))
    have e4 := ho _ (List.mem_cons_of_mem _ (List.mem_cons_of_mem _ (List.mem_cons_of_mem _ (List.mem_cons_of_mem _ (List.mem_cons_of_mem _ (List.mem_cons_of_mem _ (List.mem_cons_of_mem _ (List.mem_cons_self ..))))))))
    simp only [List.cons.injEq, and_true] at e0
    obtain ⟨rfl, rfl, rfl, rfl, rfl, rfl, rfl, rfl, rfl⟩ := e0
    obtain ⟨_, g1, g2, g3⟩ := arP_ok hp fun p hp => ho p (by simp [hp])
    exact frame2n (H := H) (h0 := h) (h1 := hw) ⟨_, hTE⟩ (takeny_fn (s := ⟨W, st, kd, wd, vl, ch⟩) (wdP_of w1 w2 w3 (by omega) w5) w4 e3 e4) rfl rfl rfl g3 g1 g2 rfl rfl rfl
  · simp only [Option.some.injEq, Prod.mk.injEq] at hs
    obtain ⟨rfl, rfl, rfl⟩ := hs
    have e0 := ho _ (List.mem_cons_self ..)
    have w1 := ho _ (List.mem_cons_of_mem _ (List.mem_cons_self ..))
    have w2 := ho _ (List.mem_cons_of_mem _ (List.mem_cons_of_mem _ (List.mem_cons_self ..)))
    have w3 := ho _ (List.mem_cons_of_mem _ (List.mem_cons_of_mem _ (List.mem_cons_of_mem _ (List.mem_cons_self ..))))
    have w4 := ho _ (List.mem_cons_of_mem _ (List.mem_cons_of_mem _ (List.mem_cons_of_mem _ (List.mem_cons_of_mem _ (List.mem_cons_self ..)))))
    have w5 := ho _ (List.mem_cons_of_mem _ (List.mem_cons_of_mem _ (List.mem_cons_of_mem _ (List.mem_cons_of_mem _ (List.mem_cons_of_mem _ (List.mem_cons_self ..))))))
    have e3 := ho _ (List.mem_cons_of_mem _ (List.mem_cons_of_mem _ (List.mem_cons_of_mem _ (List.mem_cons_of_mem _ (List.mem_cons_of_mem _ (List.mem_cons_of_mem _ (List.mem_cons_self ..)))))))
    have e4 := ho _ (List.mem_cons_of_mem _ (List.mem_cons_of_mem _ (List.mem_cons_of_mem _ (List.mem_cons_of_mem _ (List.mem_cons_of_mem _ (List.mem_cons_of_mem _ (List.mem_cons_of_mem _ (List.mem_cons_self ..))))))))
    simp only [List.cons.injEq, and_true] at e0
    obtain ⟨rfl, rfl, rfl, rfl, rfl, rfl, rfl, rfl, rfl⟩ := e0
    obtain ⟨_, g1, g2, g3⟩ := arP_ok hp fun p hp => ho p (by simp [hp])
    exact frame2n (H := H) (h0 := h) (h1 := hw) ⟨_, hTE⟩ (takenn_fn (s := ⟨W, st, kd, wd, vl, ch⟩) (wdP_of w1 w2 w3 (by omega) w5) w4 e3 e4) rfl rfl rfl g3 g1 g2 rfl rfl rfl
end Go.Proofs.Ytmghcelohnlceaa
