/- Find: the steps of a run that finds, as contracts. -/
import Derived.Test.YtkkddjchkkaagaaGreatDoorFindLaw
namespace Go.Proofs.YtkkddjchkkaagaaGreatDoor
open Go Go.Hx
set_option maxRecDepth 8000
theorem right_FR {T : Nat} {R : Int} (t1 : 1 ≤ T) (t8 : T ≤ 8) (r1 : 1 ≤ R) (r4 : R ≤ 4) : rightB (T : Int) 4 1 2 4 1 6 0 R = true := right_iff.2 (by omega)
theorem fent_at {T p : Nat} {R : Int} (h : p < T) : entryF (T : Int) 4 1 2 4 1 6 0 R (p : Int) = ((fP p : Nat) : Int) := by
  unfold entryF entryV fP
  simp
  omega
theorem fctl_at {T p : Nat} {R : Int} (h : p < T) : ctlF (T : Int) 4 1 2 4 1 6 0 R (p : Int) = ((gP T p : Nat) : Int) := by
  unfold ctlF ctlV gP
  simp
  omega
theorem fpl_at {T start i : Nat} (hs : start < T) (hi : i < T) (t8 : T ≤ 8) : (IntKind.i64.wrap ((start : Int) + (i : Int))).tmod (T : Int) = ((fPl T start i : Nat) : Int) := by
  rw [wi64 (by omega) (by omega), Int.tmod_eq_emod_of_nonneg (by omega)]
  show _ = (((start + i) % T : Nat) : Int)
  rw [Int.natCast_emod, Int.natCast_add]
theorem fP_lt' {T p : Nat} {W : List Int} (hl : W.length = 11 + 10 * T) (h : p < T) : ((fP p : Nat) : Int) < (W.length : Int) := by unfold fP; omega
theorem gP_lt' {T p : Nat} {W : List Int} (hl : W.length = 11 + 10 * T) (h : p < T) : ((gP T p : Nat) : Int) < (W.length : Int) := by unfold gP; omega
theorem two_nat : Int.toNat 2 = 2 := rfl
def ctFt : Nat → Option Hx.Spec
  | 29 => some (pureS (placeS entryF))
  | 44 => some (pureS (placeS ctlF))
  | 84 => some (pureS startS)
  | 59 => some (pureS fkeyS)
  | 174 => some (pureS unpkS)
  | 32 => some (arLoadS)
  | 36 => some (arStepsS)
  | _ => none
theorem ctFt_ok : ∀ f s args H ob V L, ctFt f = some s → s args H = some (ob, V, L) → AllP ob → Gives Tryz.prog f args H (Is V L) := by
  intro f s args H ob V L h hs ho
  unfold ctFt at h
  split at h
  · simp at h; subst h; exact pureS_ok ⟨_, hTE⟩ (placeS_ok (v := entryF) entry_fn) hs ho
  · simp at h; subst h; exact pureS_ok ⟨_, hTE⟩ (placeS_ok (v := ctlF) ctl_fn) hs ho
  · simp at h; subst h; exact pureS_ok ⟨_, hTE⟩ (startS_ok) hs ho
  · simp at h; subst h; exact pureS_ok ⟨_, hTE⟩ (fkeyS_ok) hs ho
  · simp at h; subst h; exact pureS_ok ⟨_, hTE⟩ (unpkS_ok) hs ho
  · simp at h; subst h; exact arLoadS_ok hs ho
  · simp at h; subst h; exact arStepsS_ok hs ho
  · simp at h
noncomputable def XFt : Tabs := tabs tr ft xt (fun _ => none) ctFt 20
theorem hXFt : TOk Tryz.prog (XFt) := ⟨hTE, hFT, ctFt_ok, hXT, fun t ks h => by simp [XFt, tabs] at h, mixed⟩
theorem len_app1 {l : List Int} {x : Int} : l.length + 1 = (l ++ [x]).length := by simp
theorem clF {P : Prop} (h : P := by repeat' (first | exact rfl | exact trivial | exact sim_refl _ | exact sim_erV | exact okP_erV | exact sim_slVr rfl | exact len_app1 | exact subE_same rfl ren_slE | exact okE_slE | exact okP_slV rfl | refine And.intro ?_ ?_)) : P := h
def fnx (ph h : Nat) : SV :=
  match ph with
  | 0 => .nilfunc
  | 1 => .func (Fn.func 85) [.ptr h 0] []
  | 2 => .func (Fn.func 86) [.ptr h 0] []
  | 3 => .func (Fn.func 141) [.ptr h 0] []
  | _ => .func (Fn.func 142) [.ptr h 0] []
def fnC (T R : Int) (h : Nat) (s : FS) : SO := .cells [.int .i64 T, .int .i64 4, .int .i64 1, .int .i64 2, .int .i64 4, .int .i64 1, .int .i64 6, .int .i64 0, .int .i64 R, fnx s.ph h, .func (Fn.func 86) [.ptr h 0] [], .int .u64 s.seq, .int .i64 (s.i : Int), .int .i64 s.fd, .int .i64 s.pl, .int .i64 s.ep, .bool s.lg, erV s.er, .int .i64 s.tm, .int .i64 s.key] 123
abbrev FStp (T : Nat) (R : Int) (s : FS) (W : List Int) (st kd wd vl : Int) (ch : Bool) (r : FR) : Prop :=
  Gives Tryz.prog 16 [.ptr 0 0, .ptr 1 0] [.obj (fnC (T : Int) R 0 s), AOx 2 W st kd wd vl ch, WO W] (Is (.bool (decide (r.s.ph = 0))) [.obj (fnC (T : Int) R 0 r.s), AOx 2 W (st + 1) 1 r.wd r.vl false, WO W])
section
variable {T : Nat} {R : Int} {start : Nat} {W : List Int} {st kd wd vl : Int} {ch : Bool} {key seq : Int} {i : Nat} {fd pl ep : Int} {lg : Bool} {er tm : Int}
set_option maxHeartbeats 4000000 in
theorem f1e (B : FB T R W st) (C : FC T R ⟨key, 1, seq, i, fd, pl, ep, lg, er, tm⟩) (_hs : start < T) (_hst : startV (T : Int) 4 1 2 4 1 6 0 R key = (start : Int)) (g : ¬ W.getD 2 0 % 2 = 1) : FStp T R ⟨key, 1, seq, i, fd, pl, ep, lg, er, tm⟩ W st kd wd vl ch ⟨⟨key, 2, (W.getD 2 0), 0, fd, 0, 0, false, 0, tm⟩, 2, W.getD 2 0⟩ := by
  have t1 := B.t1
  have t8 := B.t8
  have r1 := B.r1
  have r4 := B.r4
  have hl := B.hl
  have s0 := B.s0
  have s1 := B.s1
  have k1 : 1 ≤ key := C.k1
  have k2 : key ≤ 2147483647 := C.k2
  have f0 : 0 ≤ fd := C.f0
  have f1 : fd < R := C.f1
  have hr := right_FR t1 t8 r1 r4
  have l2 : (2 : Int) < (W.length : Int) := by omega
  have w2 := (B.hw 2).1
  have w2' := (B.hw 2).2
  have ewf : IntKind.i64.wrap (fd + 1) = fd + 1 := wi64 (by omega) (by omega)
  have wev : (W.getD 2 0).tmod 2 = W.getD 2 0 % 2 := Int.tmod_eq_emod_of_nonneg w2
  refine gives_x hXFt (fn := Tryz.f16) rfl rfl rfl rfl fun ρ w => ?_
  dsimp only [fnC, fnx]
  refine sx hXFt [] 4000 rfl (by (simp [-List.getD_eq_getElem?_getD, -List.length_eq_zero_iff, conjP, getH, HE.so, s0, l2] <;> (first | omega | ((repeat' (refine And.intro ?_ ?_)) <;> (first | omega | exact decide_eq_false (by omega) | exact decide_eq_true (by omega)))))) ?_
  refine sx hXFt [.F] 4000 rfl (by (simp [-List.getD_eq_getElem?_getD, -List.length_eq_zero_iff, conjP, addOP, wev, two_nat, g])) ?_
  (try simp only [two_nat]; refine ss_end hXFt [0, 1, 2] rfl rfl trivial rfl rfl rfl rfl ?hv ?hh ?hk ?ho; (case hv => exact clF); (case hh => exact clF); (case hk => exact clF); (case ho => exact clF))
set_option maxHeartbeats 4000000 in
theorem f1l (B : FB T R W st) (C : FC T R ⟨key, 1, seq, i, fd, pl, ep, lg, er, tm⟩) (_hs : start < T) (_hst : startV (T : Int) 4 1 2 4 1 6 0 R key = (start : Int)) (g : W.getD 2 0 % 2 = 1) (g2 : fd + 1 = R) : FStp T R ⟨key, 1, seq, i, fd, pl, ep, lg, er, tm⟩ W st kd wd vl ch ⟨⟨key, 0, (W.getD 2 0), 0, (fd + 1), 0, 0, false, 17, tm⟩, 2, W.getD 2 0⟩ := by
  have t1 := B.t1
  have t8 := B.t8
  have r1 := B.r1
  have r4 := B.r4
  have hl := B.hl
  have s0 := B.s0
  have s1 := B.s1
  have k1 : 1 ≤ key := C.k1
  have k2 : key ≤ 2147483647 := C.k2
  have f0 : 0 ≤ fd := C.f0
  have f1 : fd < R := C.f1
  have hr := right_FR t1 t8 r1 r4
  have l2 : (2 : Int) < (W.length : Int) := by omega
  have w2 := (B.hw 2).1
  have w2' := (B.hw 2).2
  have ewf : IntKind.i64.wrap (fd + 1) = fd + 1 := wi64 (by omega) (by omega)
  have wev : (W.getD 2 0).tmod 2 = W.getD 2 0 % 2 := Int.tmod_eq_emod_of_nonneg w2
  have ewR : IntKind.i64.wrap (fd + 1) = R := by rw [ewf, g2]
  refine gives_x hXFt (fn := Tryz.f16) rfl rfl rfl rfl fun ρ w => ?_
  dsimp only [fnC, fnx]
  refine sx hXFt [] 4000 rfl (by (simp [-List.getD_eq_getElem?_getD, -List.length_eq_zero_iff, conjP, getH, HE.so, s0, l2] <;> (first | omega | ((repeat' (refine And.intro ?_ ?_)) <;> (first | omega | exact decide_eq_false (by omega) | exact decide_eq_true (by omega)))))) ?_
  refine sx hXFt [.T] 4000 rfl (by (simp [-List.getD_eq_getElem?_getD, -List.length_eq_zero_iff, conjP, getH, HE.so, wev, two_nat, g])) ?_
  refine sx hXFt [.T] 4000 rfl (by (simp [-List.getD_eq_getElem?_getD, -List.length_eq_zero_iff, conjP, addOP, ewR])) ?_
  refine sx hXFt [.F] 4000 rfl (by (simp [-List.getD_eq_getElem?_getD, -List.length_eq_zero_iff, conjP, addOP])) ?_
  (try simp only [two_nat, ewf]; refine ss_end hXFt [0, 1, 2] rfl rfl trivial rfl rfl rfl rfl ?hv ?hh ?hk ?ho; (case hv => exact clF); (case hh => exact clF); (case hk => exact clF); (case ho => exact clF))
set_option maxHeartbeats 4000000 in
theorem f1f (B : FB T R W st) (C : FC T R ⟨key, 1, seq, i, fd, pl, ep, lg, er, tm⟩) (_hs : start < T) (_hst : startV (T : Int) 4 1 2 4 1 6 0 R key = (start : Int)) (g : W.getD 2 0 % 2 = 1) (g2 : ¬ fd + 1 = R) : FStp T R ⟨key, 1, seq, i, fd, pl, ep, lg, er, tm⟩ W st kd wd vl ch ⟨⟨key, 1, (W.getD 2 0), 0, (fd + 1), 0, 0, false, 0, tm⟩, 2, W.getD 2 0⟩ := by
  have t1 := B.t1
  have t8 := B.t8
  have r1 := B.r1
  have r4 := B.r4
  have hl := B.hl
  have s0 := B.s0
  have s1 := B.s1
  have k1 : 1 ≤ key := C.k1
  have k2 : key ≤ 2147483647 := C.k2
  have f0 : 0 ≤ fd := C.f0
  have f1 : fd < R := C.f1
  have hr := right_FR t1 t8 r1 r4
  have l2 : (2 : Int) < (W.length : Int) := by omega
  have w2 := (B.hw 2).1
  have w2' := (B.hw 2).2
  have ewf : IntKind.i64.wrap (fd + 1) = fd + 1 := wi64 (by omega) (by omega)
  have wev : (W.getD 2 0).tmod 2 = W.getD 2 0 % 2 := Int.tmod_eq_emod_of_nonneg w2
  refine gives_x hXFt (fn := Tryz.f16) rfl rfl rfl rfl fun ρ w => ?_
  dsimp only [fnC, fnx]
  refine sx hXFt [] 4000 rfl (by (simp [-List.getD_eq_getElem?_getD, -List.length_eq_zero_iff, conjP, getH, HE.so, s0, l2] <;> (first | omega | ((repeat' (refine And.intro ?_ ?_)) <;> (first | omega | exact decide_eq_false (by omega) | exact decide_eq_true (by omega)))))) ?_
  refine sx hXFt [.T] 4000 rfl (by (simp [-List.getD_eq_getElem?_getD, -List.length_eq_zero_iff, conjP, getH, HE.so, wev, two_nat, g])) ?_
  refine sx hXFt [.F] 4000 rfl (by (simp [-List.getD_eq_getElem?_getD, -List.length_eq_zero_iff, conjP, addOP, ewf, g2])) ?_
  (try simp only [two_nat, ewf]; refine ss_end hXFt [0, 1, 2] rfl rfl trivial rfl rfl rfl rfl ?hv ?hh ?hk ?ho; (case hv => exact clF); (case hh => exact clF); (case hk => exact clF); (case ho => exact clF))
set_option maxHeartbeats 4000000 in
theorem f2f (B : FB T R W st) (C : FC T R ⟨key, 2, seq, i, fd, pl, ep, lg, er, tm⟩) (hs : start < T) (hst : startV (T : Int) 4 1 2 4 1 6 0 R key = (start : Int)) (hK : isK (W.getD (fP (fPl T start i)) 0) = true) (hq : W.getD (fP (fPl T start i)) 0 / 4 = key) : FStp T R ⟨key, 2, seq, i, fd, pl, ep, lg, er, tm⟩ W st kd wd vl ch ⟨⟨key, 3, seq, (i + 1), fd, (fPl T start i : Int), 0, (lgW (W.getD (fP (fPl T start i)) 0)), er, tm⟩, (fP (fPl T start i) : Int), W.getD (fP (fPl T start i)) 0⟩ := by
  have t1 := B.t1
  have t8 := B.t8
  have r1 := B.r1
  have r4 := B.r4
  have hl := B.hl
  have s0 := B.s0
  have s1 := B.s1
  have k1 : 1 ≤ key := C.k1
  have k2 : key ≤ 2147483647 := C.k2
  have f0 : 0 ≤ fd := C.f0
  have f1 : fd < R := C.f1
  have hr := right_FR t1 t8 r1 r4
  have l2 : (2 : Int) < (W.length : Int) := by omega
  have w2 := (B.hw 2).1
  have w2' := (B.hw 2).2
  have ewf : IntKind.i64.wrap (fd + 1) = fd + 1 := wi64 (by omega) (by omega)
  have hi : i < T := C.it rfl
  have ewi : IntKind.i64.wrap ((i : Int) + 1) = ((i + 1 : Nat) : Int) := by rw [wi64 (by omega) (by omega)]; omega
  have pa := fpl_at hs hi t8
  have tz : ¬ (T : Int) = 0 := by omega
  have hpf : ((fPl T start i : Nat) : Int) < 9223372036854775808 := by have := fPl_lt (start := start) (i := i) t1; omega
  have en := fent_at (R := R) (fPl_lt (start := start) (i := i) t1)
  have el := fP_lt' hl (fPl_lt (start := start) (i := i) t1)
  have w0 := (B.hw (fP (fPl T start i))).1
  have w1 := (B.hw (fP (fPl T start i))).2
  have kyv : kyW (W.getD (fP (fPl T start i)) 0) = W.getD (fP (fPl T start i)) 0 / 4 := by unfold kyW; rw [hK]; rfl
  refine gives_x hXFt (fn := Tryz.f16) rfl rfl rfl rfl fun ρ w => ?_
  dsimp only [fnC, fnx]
  refine sx hXFt [] 4000 rfl (by (simp [-List.getD_eq_getElem?_getD, -List.length_eq_zero_iff, conjP, getH, HE.so, hr, s0, hst, pa, hpf, en, el, w0, w1, Int.toNat_natCast] <;> (first | omega | ((repeat' (refine And.intro ?_ ?_)) <;> (first | omega | exact decide_eq_false (by omega) | exact decide_eq_true (by omega)))))) ?_
  refine sx hXFt [.T] 4000 rfl (by (simp [-List.getD_eq_getElem?_getD, -List.length_eq_zero_iff, conjP, addOP, hst, pa, en, Int.toNat_natCast, hK])) ?_
  refine sx hXFt [.T] 4000 rfl (by (simp [-List.getD_eq_getElem?_getD, -List.length_eq_zero_iff, conjP, addOP, hst, pa, en, Int.toNat_natCast, kyv, hq])) ?_
  (try simp only [hst, pa, en, ewi, Int.toNat_natCast]; refine ss_end hXFt [0, 1, 2] rfl rfl trivial rfl rfl rfl rfl ?hv ?hh ?hk ?ho; (case hv => exact clF); (case hh => exact clF); (case hk => exact clF); (case ho => exact clF))
set_option maxHeartbeats 4000000 in
theorem f2z (B : FB T R W st) (C : FC T R ⟨key, 2, seq, i, fd, pl, ep, lg, er, tm⟩) (hs : start < T) (hst : startV (T : Int) 4 1 2 4 1 6 0 R key = (start : Int)) (hz : W.getD (fP (fPl T start i)) 0 = 0) : FStp T R ⟨key, 2, seq, i, fd, pl, ep, lg, er, tm⟩ W st kd wd vl ch ⟨⟨key, 4, seq, (i + 1), fd, pl, ep, lg, 12, tm⟩, (fP (fPl T start i) : Int), W.getD (fP (fPl T start i)) 0⟩ := by
  have t1 := B.t1
  have t8 := B.t8
  have r1 := B.r1
  have r4 := B.r4
  have hl := B.hl
  have s0 := B.s0
  have s1 := B.s1
  have k1 : 1 ≤ key := C.k1
  have k2 : key ≤ 2147483647 := C.k2
  have f0 : 0 ≤ fd := C.f0
  have f1 : fd < R := C.f1
  have hr := right_FR t1 t8 r1 r4
  have l2 : (2 : Int) < (W.length : Int) := by omega
  have w2 := (B.hw 2).1
  have w2' := (B.hw 2).2
  have ewf : IntKind.i64.wrap (fd + 1) = fd + 1 := wi64 (by omega) (by omega)
  have hi : i < T := C.it rfl
  have ewi : IntKind.i64.wrap ((i : Int) + 1) = ((i + 1 : Nat) : Int) := by rw [wi64 (by omega) (by omega)]; omega
  have pa := fpl_at hs hi t8
  have tz : ¬ (T : Int) = 0 := by omega
  have hpf : ((fPl T start i : Nat) : Int) < 9223372036854775808 := by have := fPl_lt (start := start) (i := i) t1; omega
  have en := fent_at (R := R) (fPl_lt (start := start) (i := i) t1)
  have el := fP_lt' hl (fPl_lt (start := start) (i := i) t1)
  have w0 := (B.hw (fP (fPl T start i))).1
  have w1 := (B.hw (fP (fPl T start i))).2
  have hK : isK (0 : Int) = false := by decide
  have kyv : kyW 0 = 0 := by decide
  refine gives_x hXFt (fn := Tryz.f16) rfl rfl rfl rfl fun ρ w => ?_
  dsimp only [fnC, fnx]
  refine sx hXFt [] 4000 rfl (by (simp [-List.getD_eq_getElem?_getD, -List.length_eq_zero_iff, conjP, getH, HE.so, hr, s0, hst, pa, hpf, en, el, Int.toNat_natCast, hz] <;> (first | omega | ((repeat' (refine And.intro ?_ ?_)) <;> (first | omega | exact decide_eq_false (by omega) | exact decide_eq_true (by omega)))))) ?_
  refine sx hXFt [.F] 4000 rfl (by (simp [-List.getD_eq_getElem?_getD, -List.length_eq_zero_iff, conjP, addOP, hst, pa, en, Int.toNat_natCast, hK, hz])) ?_
  refine sx hXFt [.K, .T] 4000 rfl (by (simp [-List.getD_eq_getElem?_getD, -List.length_eq_zero_iff, conjP, hst, pa, en, Int.toNat_natCast, hz])) ?_
  refine sx hXFt [.F] 4000 rfl (by (simp [-List.getD_eq_getElem?_getD, -List.length_eq_zero_iff, conjP, addOP])) ?_
  (try simp only [hst, pa, en, ewi, Int.toNat_natCast]; refine ss_end hXFt [0, 1, 2] rfl rfl trivial rfl rfl rfl rfl ?hv ?hh ?hk ?ho; (case hv => exact clF); (case hh => exact clF); (case hk => exact clF); (case ho => exact clF))
set_option maxHeartbeats 4000000 in
theorem f2ta (B : FB T R W st) (C : FC T R ⟨key, 2, seq, i, fd, pl, ep, lg, er, tm⟩) (hs : start < T) (hst : startV (T : Int) 4 1 2 4 1 6 0 R key = (start : Int)) (hK : isK (W.getD (fP (fPl T start i)) 0) = false) (hz : ¬ W.getD (fP (fPl T start i)) 0 = 0) (hi2 : i + 1 = T) : FStp T R ⟨key, 2, seq, i, fd, pl, ep, lg, er, tm⟩ W st kd wd vl ch ⟨⟨key, 4, seq, (i + 1), fd, pl, ep, lg, 12, tm⟩, (fP (fPl T start i) : Int), W.getD (fP (fPl T start i)) 0⟩ := by
  have t1 := B.t1
  have t8 := B.t8
  have r1 := B.r1
  have r4 := B.r4
  have hl := B.hl
  have s0 := B.s0
  have s1 := B.s1
  have k1 : 1 ≤ key := C.k1
  have k2 : key ≤ 2147483647 := C.k2
  have f0 : 0 ≤ fd := C.f0
  have f1 : fd < R := C.f1
  have hr := right_FR t1 t8 r1 r4
  have l2 : (2 : Int) < (W.length : Int) := by omega
  have w2 := (B.hw 2).1
  have w2' := (B.hw 2).2
  have ewf : IntKind.i64.wrap (fd + 1) = fd + 1 := wi64 (by omega) (by omega)
  have hi : i < T := C.it rfl
  have ewi : IntKind.i64.wrap ((i : Int) + 1) = ((i + 1 : Nat) : Int) := by rw [wi64 (by omega) (by omega)]; omega
  have pa := fpl_at hs hi t8
  have tz : ¬ (T : Int) = 0 := by omega
  have hpf : ((fPl T start i : Nat) : Int) < 9223372036854775808 := by have := fPl_lt (start := start) (i := i) t1; omega
  have en := fent_at (R := R) (fPl_lt (start := start) (i := i) t1)
  have el := fP_lt' hl (fPl_lt (start := start) (i := i) t1)
  have w0 := (B.hw (fP (fPl T start i))).1
  have w1 := (B.hw (fP (fPl T start i))).2
  have kyv : kyW (W.getD (fP (fPl T start i)) 0) = 0 := by unfold kyW; rw [hK]; rfl
  have ewT : IntKind.i64.wrap ((i : Int) + 1) = (T : Int) := by rw [ewi]; omega
  refine gives_x hXFt (fn := Tryz.f16) rfl rfl rfl rfl fun ρ w => ?_
  dsimp only [fnC, fnx]
  refine sx hXFt [] 4000 rfl (by (simp [-List.getD_eq_getElem?_getD, -List.length_eq_zero_iff, conjP, getH, HE.so, hr, s0, hst, pa, hpf, en, el, w0, w1, Int.toNat_natCast] <;> (first | omega | ((repeat' (refine And.intro ?_ ?_)) <;> (first | omega | exact decide_eq_false (by omega) | exact decide_eq_true (by omega)))))) ?_
  refine sx hXFt [.F] 4000 rfl (by (simp [-List.getD_eq_getElem?_getD, -List.length_eq_zero_iff, conjP, addOP, hst, pa, en, Int.toNat_natCast, hK])) ?_
  refine sx hXFt [.K, .F] 4000 rfl (by (simp [-List.getD_eq_getElem?_getD, -List.length_eq_zero_iff, conjP, hst, pa, en, Int.toNat_natCast, hz])) ?_
  refine sx hXFt [.T] 4000 rfl (by (simp [-List.getD_eq_getElem?_getD, -List.length_eq_zero_iff, conjP, addOP, ewT])) ?_
  refine sx hXFt [.F] 4000 rfl (by (simp [-List.getD_eq_getElem?_getD, -List.length_eq_zero_iff, conjP, addOP])) ?_
  (try simp only [hst, pa, en, ewi, Int.toNat_natCast]; refine ss_end hXFt [0, 1, 2] rfl rfl trivial rfl rfl rfl rfl ?hv ?hh ?hk ?ho; (case hv => exact clF); (case hh => exact clF); (case hk => exact clF); (case ho => exact clF))
set_option maxHeartbeats 4000000 in
theorem f2na (B : FB T R W st) (C : FC T R ⟨key, 2, seq, i, fd, pl, ep, lg, er, tm⟩) (hs : start < T) (hst : startV (T : Int) 4 1 2 4 1 6 0 R key = (start : Int)) (hK : isK (W.getD (fP (fPl T start i)) 0) = false) (hz : ¬ W.getD (fP (fPl T start i)) 0 = 0) (hi2 : ¬ i + 1 = T) : FStp T R ⟨key, 2, seq, i, fd, pl, ep, lg, er, tm⟩ W st kd wd vl ch ⟨⟨key, 2, seq, (i + 1), fd, pl, ep, lg, er, tm⟩, (fP (fPl T start i) : Int), W.getD (fP (fPl T start i)) 0⟩ := by
  have t1 := B.t1
  have t8 := B.t8
  have r1 := B.r1
  have r4 := B.r4
  have hl := B.hl
  have s0 := B.s0
  have s1 := B.s1
  have k1 : 1 ≤ key := C.k1
  have k2 : key ≤ 2147483647 := C.k2
  have f0 : 0 ≤ fd := C.f0
  have f1 : fd < R := C.f1
  have hr := right_FR t1 t8 r1 r4
  have l2 : (2 : Int) < (W.length : Int) := by omega
  have w2 := (B.hw 2).1
  have w2' := (B.hw 2).2
  have ewf : IntKind.i64.wrap (fd + 1) = fd + 1 := wi64 (by omega) (by omega)
  have hi : i < T := C.it rfl
  have ewi : IntKind.i64.wrap ((i : Int) + 1) = ((i + 1 : Nat) : Int) := by rw [wi64 (by omega) (by omega)]; omega
  have pa := fpl_at hs hi t8
  have tz : ¬ (T : Int) = 0 := by omega
  have hpf : ((fPl T start i : Nat) : Int) < 9223372036854775808 := by have := fPl_lt (start := start) (i := i) t1; omega
  have en := fent_at (R := R) (fPl_lt (start := start) (i := i) t1)
  have el := fP_lt' hl (fPl_lt (start := start) (i := i) t1)
  have w0 := (B.hw (fP (fPl T start i))).1
  have w1 := (B.hw (fP (fPl T start i))).2
  have kyv : kyW (W.getD (fP (fPl T start i)) 0) = 0 := by unfold kyW; rw [hK]; rfl
  have hiT : ¬ ((i + 1 : Nat) : Int) = (T : Int) := by omega
  have hiT2 : ¬ (i : Int) + 1 = (T : Int) := by omega
  refine gives_x hXFt (fn := Tryz.f16) rfl rfl rfl rfl fun ρ w => ?_
  dsimp only [fnC, fnx]
  refine sx hXFt [] 4000 rfl (by (simp [-List.getD_eq_getElem?_getD, -List.length_eq_zero_iff, conjP, getH, HE.so, hr, s0, hst, pa, hpf, en, el, w0, w1, Int.toNat_natCast] <;> (first | omega | ((repeat' (refine And.intro ?_ ?_)) <;> (first | omega | exact decide_eq_false (by omega) | exact decide_eq_true (by omega)))))) ?_
  refine sx hXFt [.F] 4000 rfl (by (simp [-List.getD_eq_getElem?_getD, -List.length_eq_zero_iff, conjP, addOP, hst, pa, en, Int.toNat_natCast, hK])) ?_
  refine sx hXFt [.K, .F] 4000 rfl (by (simp [-List.getD_eq_getElem?_getD, -List.length_eq_zero_iff, conjP, hst, pa, en, Int.toNat_natCast, hz])) ?_
  refine sx hXFt [.F] 4000 rfl (by (simp [-List.getD_eq_getElem?_getD, -List.length_eq_zero_iff, conjP, addOP, ewi, hiT2])) ?_
  (try simp only [hst, pa, en, ewi, Int.toNat_natCast]; refine ss_end hXFt [0, 1, 2] rfl rfl trivial rfl rfl rfl rfl ?hv ?hh ?hk ?ho; (case hv => exact clF); (case hh => exact clF); (case hk => exact clF); (case ho => exact clF))
set_option maxHeartbeats 4000000 in
theorem f2tb (B : FB T R W st) (C : FC T R ⟨key, 2, seq, i, fd, pl, ep, lg, er, tm⟩) (hs : start < T) (hst : startV (T : Int) 4 1 2 4 1 6 0 R key = (start : Int)) (hK : isK (W.getD (fP (fPl T start i)) 0) = true) (hq : ¬ W.getD (fP (fPl T start i)) 0 / 4 = key) (hz : ¬ W.getD (fP (fPl T start i)) 0 = 0) (hi2 : i + 1 = T) : FStp T R ⟨key, 2, seq, i, fd, pl, ep, lg, er, tm⟩ W st kd wd vl ch ⟨⟨key, 4, seq, (i + 1), fd, pl, ep, lg, 12, tm⟩, (fP (fPl T start i) : Int), W.getD (fP (fPl T start i)) 0⟩ := by
  have t1 := B.t1
  have t8 := B.t8
  have r1 := B.r1
  have r4 := B.r4
  have hl := B.hl
  have s0 := B.s0
  have s1 := B.s1
  have k1 : 1 ≤ key := C.k1
  have k2 : key ≤ 2147483647 := C.k2
  have f0 : 0 ≤ fd := C.f0
  have f1 : fd < R := C.f1
  have hr := right_FR t1 t8 r1 r4
  have l2 : (2 : Int) < (W.length : Int) := by omega
  have w2 := (B.hw 2).1
  have w2' := (B.hw 2).2
  have ewf : IntKind.i64.wrap (fd + 1) = fd + 1 := wi64 (by omega) (by omega)
  have hi : i < T := C.it rfl
  have ewi : IntKind.i64.wrap ((i : Int) + 1) = ((i + 1 : Nat) : Int) := by rw [wi64 (by omega) (by omega)]; omega
  have pa := fpl_at hs hi t8
  have tz : ¬ (T : Int) = 0 := by omega
  have hpf : ((fPl T start i : Nat) : Int) < 9223372036854775808 := by have := fPl_lt (start := start) (i := i) t1; omega
  have en := fent_at (R := R) (fPl_lt (start := start) (i := i) t1)
  have el := fP_lt' hl (fPl_lt (start := start) (i := i) t1)
  have w0 := (B.hw (fP (fPl T start i))).1
  have w1 := (B.hw (fP (fPl T start i))).2
  have kyv : kyW (W.getD (fP (fPl T start i)) 0) = W.getD (fP (fPl T start i)) 0 / 4 := by unfold kyW; rw [hK]; rfl
  have ewT : IntKind.i64.wrap ((i : Int) + 1) = (T : Int) := by rw [ewi]; omega
  refine gives_x hXFt (fn := Tryz.f16) rfl rfl rfl rfl fun ρ w => ?_
  dsimp only [fnC, fnx]
  refine sx hXFt [] 4000 rfl (by (simp [-List.getD_eq_getElem?_getD, -List.length_eq_zero_iff, conjP, getH, HE.so, hr, s0, hst, pa, hpf, en, el, w0, w1, Int.toNat_natCast] <;> (first | omega | ((repeat' (refine And.intro ?_ ?_)) <;> (first | omega | exact decide_eq_false (by omega) | exact decide_eq_true (by omega)))))) ?_
  refine sx hXFt [.T] 4000 rfl (by (simp [-List.getD_eq_getElem?_getD, -List.length_eq_zero_iff, conjP, addOP, hst, pa, en, Int.toNat_natCast, hK])) ?_
  refine sx hXFt [.F] 4000 rfl (by (simp [-List.getD_eq_getElem?_getD, -List.length_eq_zero_iff, conjP, addOP, hst, pa, en, Int.toNat_natCast, kyv, hq])) ?_
  refine sx hXFt [.K, .F] 4000 rfl (by (simp [-List.getD_eq_getElem?_getD, -List.length_eq_zero_iff, conjP, hst, pa, en, Int.toNat_natCast, hz])) ?_
  refine sx hXFt [.T] 4000 rfl (by (simp [-List.getD_eq_getElem?_getD, -List.length_eq_zero_iff, conjP, addOP, ewT])) ?_
  refine sx hXFt [.F] 4000 rfl (by (simp [-List.getD_eq_getElem?_getD, -List.length_eq_zero_iff, conjP, addOP])) ?_
  (try simp only [hst, pa, en, ewi, Int.toNat_natCast]; refine ss_end hXFt [0, 1, 2] rfl rfl trivial rfl rfl rfl rfl ?hv ?hh ?hk ?ho; (case hv => exact clF); (case hh => exact clF); (case hk => exact clF); (case ho => exact clF))
set_option maxHeartbeats 4000000 in
theorem f2nb (B : FB T R W st) (C : FC T R ⟨key, 2, seq, i, fd, pl, ep, lg, er, tm⟩) (hs : start < T) (hst : startV (T : Int) 4 1 2 4 1 6 0 R key = (start : Int)) (hK : isK (W.getD (fP (fPl T start i)) 0) = true) (hq : ¬ W.getD (fP (fPl T start i)) 0 / 4 = key) (hz : ¬ W.getD (fP (fPl T start i)) 0 = 0) (hi2 : ¬ i + 1 = T) : FStp T R ⟨key, 2, seq, i, fd, pl, ep, lg, er, tm⟩ W st kd wd vl ch ⟨⟨key, 2, seq, (i + 1), fd, pl, ep, lg, er, tm⟩, (fP (fPl T start i) : Int), W.getD (fP (fPl T start i)) 0⟩ := by
  have t1 := B.t1
  have t8 := B.t8
  have r1 := B.r1
  have r4 := B.r4
  have hl := B.hl
  have s0 := B.s0
  have s1 := B.s1
  have k1 : 1 ≤ key := C.k1
  have k2 : key ≤ 2147483647 := C.k2
  have f0 : 0 ≤ fd := C.f0
  have f1 : fd < R := C.f1
  have hr := right_FR t1 t8 r1 r4
  have l2 : (2 : Int) < (W.length : Int) := by omega
  have w2 := (B.hw 2).1
  have w2' := (B.hw 2).2
  have ewf : IntKind.i64.wrap (fd + 1) = fd + 1 := wi64 (by omega) (by omega)
  have hi : i < T := C.it rfl
  have ewi : IntKind.i64.wrap ((i : Int) + 1) = ((i + 1 : Nat) : Int) := by rw [wi64 (by omega) (by omega)]; omega
  have pa := fpl_at hs hi t8
  have tz : ¬ (T : Int) = 0 := by omega
  have hpf : ((fPl T start i : Nat) : Int) < 9223372036854775808 := by have := fPl_lt (start := start) (i := i) t1; omega
  have en := fent_at (R := R) (fPl_lt (start := start) (i := i) t1)
  have el := fP_lt' hl (fPl_lt (start := start) (i := i) t1)
  have w0 := (B.hw (fP (fPl T start i))).1
  have w1 := (B.hw (fP (fPl T start i))).2
  have kyv : kyW (W.getD (fP (fPl T start i)) 0) = W.getD (fP (fPl T start i)) 0 / 4 := by unfold kyW; rw [hK]; rfl
  have hiT : ¬ ((i + 1 : Nat) : Int) = (T : Int) := by omega
  have hiT2 : ¬ (i : Int) + 1 = (T : Int) := by omega
  refine gives_x hXFt (fn := Tryz.f16) rfl rfl rfl rfl fun ρ w => ?_
  dsimp only [fnC, fnx]
  refine sx hXFt [] 4000 rfl (by (simp [-List.getD_eq_getElem?_getD, -List.length_eq_zero_iff, conjP, getH, HE.so, hr, s0, hst, pa, hpf, en, el, w0, w1, Int.toNat_natCast] <;> (first | omega | ((repeat' (refine And.intro ?_ ?_)) <;> (first | omega | exact decide_eq_false (by omega) | exact decide_eq_true (by omega)))))) ?_
  refine sx hXFt [.T] 4000 rfl (by (simp [-List.getD_eq_getElem?_getD, -List.length_eq_zero_iff, conjP, addOP, hst, pa, en, Int.toNat_natCast, hK])) ?_
  refine sx hXFt [.F] 4000 rfl (by (simp [-List.getD_eq_getElem?_getD, -List.length_eq_zero_iff, conjP, addOP, hst, pa, en, Int.toNat_natCast, kyv, hq])) ?_
  refine sx hXFt [.K, .F] 4000 rfl (by (simp [-List.getD_eq_getElem?_getD, -List.length_eq_zero_iff, conjP, hst, pa, en, Int.toNat_natCast, hz])) ?_
  refine sx hXFt [.F] 4000 rfl (by (simp [-List.getD_eq_getElem?_getD, -List.length_eq_zero_iff, conjP, addOP, ewi, hiT2])) ?_
  (try simp only [hst, pa, en, ewi, Int.toNat_natCast]; refine ss_end hXFt [0, 1, 2] rfl rfl trivial rfl rfl rfl rfl ?hv ?hh ?hk ?ho; (case hv => exact clF); (case hh => exact clF); (case hk => exact clF); (case ho => exact clF))
set_option maxHeartbeats 4000000 in
theorem f3 (B : FB T R W st) (C : FC T R ⟨key, 3, seq, i, fd, pl, ep, lg, er, tm⟩) (_hs : start < T) (_hst : startV (T : Int) 4 1 2 4 1 6 0 R key = (start : Int))  : FStp T R ⟨key, 3, seq, i, fd, pl, ep, lg, er, tm⟩ W st kd wd vl ch ⟨⟨key, 4, seq, i, fd, pl, (epW (W.getD (gP T pl.toNat) 0)), lg, er, tm⟩, (gP T pl.toNat : Int), W.getD (gP T pl.toNat) 0⟩ := by
  have t1 := B.t1
  have t8 := B.t8
  have r1 := B.r1
  have r4 := B.r4
  have hl := B.hl
  have s0 := B.s0
  have s1 := B.s1
  have k1 : 1 ≤ key := C.k1
  have k2 : key ≤ 2147483647 := C.k2
  have f0 : 0 ≤ fd := C.f0
  have f1 : fd < R := C.f1
  have hr := right_FR t1 t8 r1 r4
  have l2 : (2 : Int) < (W.length : Int) := by omega
  have w2 := (B.hw 2).1
  have w2' := (B.hw 2).2
  have ewf : IntKind.i64.wrap (fd + 1) = fd + 1 := wi64 (by omega) (by omega)
  obtain ⟨p, hp, hpl⟩ := C.pe rfl
  have hpl : pl = (p : Int) := hpl
  subst hpl
  have cn := fctl_at (R := R) hp
  have cl_ := gP_lt' hl hp
  have c0 := (B.hw (gP T p)).1
  have c1 := (B.hw (gP T p)).2
  refine gives_x hXFt (fn := Tryz.f16) rfl rfl rfl rfl fun ρ w => ?_
  dsimp only [fnC, fnx]
  refine sx hXFt [] 4000 rfl (by (simp [-List.getD_eq_getElem?_getD, -List.length_eq_zero_iff, conjP, hr, s0, cn, cl_, c0, c1, Int.toNat_natCast] <;> (first | omega | ((repeat' (refine And.intro ?_ ?_)) <;> (first | omega | exact decide_eq_false (by omega) | exact decide_eq_true (by omega)))))) ?_
  (try simp only [cn, Int.toNat_natCast]; refine ss_end hXFt [0, 1, 2] rfl rfl trivial rfl rfl rfl rfl ?hv ?hh ?hk ?ho; (case hv => exact clF); (case hh => exact clF); (case hk => exact clF); (case ho => exact clF))
set_option maxHeartbeats 4000000 in
theorem f4s (B : FB T R W st) (C : FC T R ⟨key, 4, seq, i, fd, pl, ep, lg, er, tm⟩) (_hs : start < T) (_hst : startV (T : Int) 4 1 2 4 1 6 0 R key = (start : Int)) (g : W.getD 2 0 = seq) : FStp T R ⟨key, 4, seq, i, fd, pl, ep, lg, er, tm⟩ W st kd wd vl ch ⟨⟨key, 0, seq, i, fd, pl, ep, lg, er, (st + 1)⟩, 2, W.getD 2 0⟩ := by
  have t1 := B.t1
  have t8 := B.t8
  have r1 := B.r1
  have r4 := B.r4
  have hl := B.hl
  have s0 := B.s0
  have s1 := B.s1
  have k1 : 1 ≤ key := C.k1
  have k2 : key ≤ 2147483647 := C.k2
  have f0 : 0 ≤ fd := C.f0
  have f1 : fd < R := C.f1
  have hr := right_FR t1 t8 r1 r4
  have l2 : (2 : Int) < (W.length : Int) := by omega
  have w2 := (B.hw 2).1
  have w2' := (B.hw 2).2
  have ewf : IntKind.i64.wrap (fd + 1) = fd + 1 := wi64 (by omega) (by omega)
  have ews : IntKind.i64.wrap (st + 1) = st + 1 := wi64 (by omega) (by omega)
  refine gives_x hXFt (fn := Tryz.f16) rfl rfl rfl rfl fun ρ w => ?_
  dsimp only [fnC, fnx]
  refine sx hXFt [] 4000 rfl (by (simp [-List.getD_eq_getElem?_getD, -List.length_eq_zero_iff, conjP, getH, HE.so, s0, l2] <;> (first | omega | ((repeat' (refine And.intro ?_ ?_)) <;> (first | omega | exact decide_eq_false (by omega) | exact decide_eq_true (by omega)))))) ?_
  refine sx hXFt [.F] 4000 rfl (by (simp [-List.getD_eq_getElem?_getD, -List.length_eq_zero_iff, conjP, addOP, two_nat, g])) ?_
  (try simp only [two_nat, g]; refine ss_end hXFt [0, 1, 2] rfl rfl trivial rfl rfl rfl rfl ?hv ?hh ?hk ?ho; (case hv => exact clF); (case hh => exact clF); (case hk => exact clF); (case ho => exact clF))
set_option maxHeartbeats 4000000 in
theorem f4l (B : FB T R W st) (C : FC T R ⟨key, 4, seq, i, fd, pl, ep, lg, er, tm⟩) (_hs : start < T) (_hst : startV (T : Int) 4 1 2 4 1 6 0 R key = (start : Int)) (g : ¬ W.getD 2 0 = seq) (g2 : fd + 1 = R) : FStp T R ⟨key, 4, seq, i, fd, pl, ep, lg, er, tm⟩ W st kd wd vl ch ⟨⟨key, 0, seq, i, (fd + 1), 0, 0, false, 17, (st + 1)⟩, 2, W.getD 2 0⟩ := by
  have t1 := B.t1
  have t8 := B.t8
  have r1 := B.r1
  have r4 := B.r4
  have hl := B.hl
  have s0 := B.s0
  have s1 := B.s1
  have k1 : 1 ≤ key := C.k1
  have k2 : key ≤ 2147483647 := C.k2
  have f0 : 0 ≤ fd := C.f0
  have f1 : fd < R := C.f1
  have hr := right_FR t1 t8 r1 r4
  have l2 : (2 : Int) < (W.length : Int) := by omega
  have w2 := (B.hw 2).1
  have w2' := (B.hw 2).2
  have ewf : IntKind.i64.wrap (fd + 1) = fd + 1 := wi64 (by omega) (by omega)
  have ews : IntKind.i64.wrap (st + 1) = st + 1 := wi64 (by omega) (by omega)
  have ewR : IntKind.i64.wrap (fd + 1) = R := by rw [ewf, g2]
  refine gives_x hXFt (fn := Tryz.f16) rfl rfl rfl rfl fun ρ w => ?_
  dsimp only [fnC, fnx]
  refine sx hXFt [] 4000 rfl (by (simp [-List.getD_eq_getElem?_getD, -List.length_eq_zero_iff, conjP, getH, HE.so, s0, l2] <;> (first | omega | ((repeat' (refine And.intro ?_ ?_)) <;> (first | omega | exact decide_eq_false (by omega) | exact decide_eq_true (by omega)))))) ?_
  refine sx hXFt [.T] 4000 rfl (by (simp [-List.getD_eq_getElem?_getD, -List.length_eq_zero_iff, conjP, getH, HE.so, two_nat, g])) ?_
  refine sx hXFt [.T] 4000 rfl (by (simp [-List.getD_eq_getElem?_getD, -List.length_eq_zero_iff, conjP, addOP, ewR])) ?_
  refine sx hXFt [.F] 4000 rfl (by (simp [-List.getD_eq_getElem?_getD, -List.length_eq_zero_iff, conjP, addOP])) ?_
  (try simp only [two_nat, ewf]; refine ss_end hXFt [0, 1, 2] rfl rfl trivial rfl rfl rfl rfl ?hv ?hh ?hk ?ho; (case hv => exact clF); (case hh => exact clF); (case hk => exact clF); (case ho => exact clF))
set_option maxHeartbeats 4000000 in
theorem f4f (B : FB T R W st) (C : FC T R ⟨key, 4, seq, i, fd, pl, ep, lg, er, tm⟩) (_hs : start < T) (_hst : startV (T : Int) 4 1 2 4 1 6 0 R key = (start : Int)) (g : ¬ W.getD 2 0 = seq) (g2 : ¬ fd + 1 = R) : FStp T R ⟨key, 4, seq, i, fd, pl, ep, lg, er, tm⟩ W st kd wd vl ch ⟨⟨key, 1, seq, i, (fd + 1), 0, 0, false, 0, (st + 1)⟩, 2, W.getD 2 0⟩ := by
  have t1 := B.t1
  have t8 := B.t8
  have r1 := B.r1
  have r4 := B.r4
  have hl := B.hl
  have s0 := B.s0
  have s1 := B.s1
  have k1 : 1 ≤ key := C.k1
  have k2 : key ≤ 2147483647 := C.k2
  have f0 : 0 ≤ fd := C.f0
  have f1 : fd < R := C.f1
  have hr := right_FR t1 t8 r1 r4
  have l2 : (2 : Int) < (W.length : Int) := by omega
  have w2 := (B.hw 2).1
  have w2' := (B.hw 2).2
  have ewf : IntKind.i64.wrap (fd + 1) = fd + 1 := wi64 (by omega) (by omega)
  have ews : IntKind.i64.wrap (st + 1) = st + 1 := wi64 (by omega) (by omega)
  refine gives_x hXFt (fn := Tryz.f16) rfl rfl rfl rfl fun ρ w => ?_
  dsimp only [fnC, fnx]
  refine sx hXFt [] 4000 rfl (by (simp [-List.getD_eq_getElem?_getD, -List.length_eq_zero_iff, conjP, getH, HE.so, s0, l2] <;> (first | omega | ((repeat' (refine And.intro ?_ ?_)) <;> (first | omega | exact decide_eq_false (by omega) | exact decide_eq_true (by omega)))))) ?_
  refine sx hXFt [.T] 4000 rfl (by (simp [-List.getD_eq_getElem?_getD, -List.length_eq_zero_iff, conjP, getH, HE.so, two_nat, g])) ?_
  refine sx hXFt [.F] 4000 rfl (by (simp [-List.getD_eq_getElem?_getD, -List.length_eq_zero_iff, conjP, addOP, ewf, g2])) ?_
  (try simp only [two_nat, ewf]; refine ss_end hXFt [0, 1, 2] rfl rfl trivial rfl rfl rfl rfl ?hv ?hh ?hk ?ho; (case hv => exact clF); (case hh => exact clF); (case hk => exact clF); (case ho => exact clF))
end
end Go.Proofs.YtkkddjchkkaagaaGreatDoor

/- Find: the steps of a run that lists, as contracts. -/
namespace Go.Proofs.YtkkddjchkkaagaaGreatDoor
open Go Go.Hx
set_option maxRecDepth 8000
def lnx (ph h : Nat) : SV :=
  match ph with
  | 0 => .nilfunc
  | 1 => .func (Fn.func 89) [.ptr h 0] []
  | 2 => .func (Fn.func 90) [.ptr h 0] []
  | _ => .func (Fn.func 145) [.ptr h 0] []
/-- g: where what it told lies. -/
def lsC (T R : Int) (h g : Nat) (s : LS) : SO := .cells [.int .i64 T, .int .i64 4, .int .i64 1, .int .i64 2, .int .i64 4, .int .i64 1, .int .i64 6, .int .i64 0, .int .i64 R, lnx s.ph h, .func (Fn.func 90) [.ptr h 0] [], .int .u64 s.seq, .int .i64 (s.i : Int), .int .i64 s.fd, slV s.told g, erV s.er, .int .i64 s.tm] 127
/-- What lies at the end: moved, or where it was. -/
def kpE (mv : Bool) (told : Option (List Int)) : HE := bif mv then .opq else match told with | none => .opq | some l => .obj (.buf .i64 l 1 3)
def mvL (mv : Bool) (told : Option (List Int)) : List HE := bif mv then [slE told .i64 3] else []
abbrev LStp0 (mv : Bool) (T : Nat) (R : Int) (s : LS) (W : List Int) (st kd wd vl : Int) (ch : Bool) (r : LR) : Prop :=
  Gives Tryz.prog 20 [.ptr 0 0, .ptr 1 0] [.obj (lsC (T : Int) R 0 0 s), AOx 2 W st kd wd vl ch, WO W] (Is (.bool (decide (r.s.ph = 0))) (.obj (lsC (T : Int) R 0 3 r.s) :: AOx 2 W (st + 1) 1 r.wd r.vl false :: WO W :: mvL mv r.s.told))
abbrev LStp1 (mv : Bool) (l : List Int) (T : Nat) (R : Int) (s : LS) (W : List Int) (st kd wd vl : Int) (ch : Bool) (r : LR) : Prop :=
  Gives Tryz.prog 20 [.ptr 0 0, .ptr 1 0] [.obj (lsC (T : Int) R 0 3 s), AOx 2 W st kd wd vl ch, WO W, .obj (.buf .i64 l 1 3)] (Is (.bool (decide (r.s.ph = 0))) (.obj (lsC (T : Int) R 0 (bif mv then 4 else 3) r.s) :: AOx 2 W (st + 1) 1 r.wd r.vl false :: WO W :: kpE mv r.s.told :: mvL mv r.s.told))
section
variable {T : Nat} {R : Int} {W : List Int} {st kd wd vl : Int} {ch : Bool} {seq : Int} {i : Nat} {fd er tm : Int}
set_option maxHeartbeats 4000000 in
theorem l1en (B : FB T R W st) (C : LC T R ⟨1, seq, i, fd, none, er, tm⟩) (g : ¬ W.getD 2 0 % 2 = 1) : LStp0 false T R ⟨1, seq, i, fd, none, er, tm⟩ W st kd wd vl ch ⟨⟨2, (W.getD 2 0), 0, fd, none, 0, tm⟩, 2, W.getD 2 0⟩ := by
  have t1 := B.t1
  have t8 := B.t8
  have r1 := B.r1
  have r4 := B.r4
  have hl := B.hl
  have s0 := B.s0
  have s1 := B.s1
  have f0 : 0 ≤ fd := C.f0
  have f1 : fd < R := C.f1
  have hr := right_FR t1 t8 r1 r4
  have l2 : (2 : Int) < (W.length : Int) := by omega
  have w2 := (B.hw 2).1
  have w2' := (B.hw 2).2
  have ewf : IntKind.i64.wrap (fd + 1) = fd + 1 := wi64 (by omega) (by omega)
  have wev : (W.getD 2 0).tmod 2 = W.getD 2 0 % 2 := Int.tmod_eq_emod_of_nonneg w2
  refine gives_x hXFt (fn := Tryz.f20) rfl rfl rfl rfl fun ρ w => ?_
  dsimp only [lsC, lnx, slV, mvL, kpE, cond_true, cond_false]
  refine sx hXFt [] 4000 rfl (by (simp [-List.getD_eq_getElem?_getD, -List.length_eq_zero_iff, conjP, s0, l2] <;> (first | omega | ((repeat' (refine And.intro ?_ ?_)) <;> (first | omega | exact decide_eq_false (by omega) | exact decide_eq_true (by omega)))))) ?_
  refine sx hXFt [.F] 4000 rfl (by (simp [-List.getD_eq_getElem?_getD, -List.length_eq_zero_iff, conjP, addOP, wev, two_nat, g])) ?_
  (try simp only [two_nat]; refine ss_end hXFt [0, 1, 2] rfl rfl trivial rfl rfl rfl rfl ?hv ?hh ?hk ?ho; (case hv => exact clF); (case hh => exact clF); (case hk => exact clF); (case ho => exact clF))
set_option maxHeartbeats 4000000 in
theorem l1ln (B : FB T R W st) (C : LC T R ⟨1, seq, i, fd, none, er, tm⟩) (g : W.getD 2 0 % 2 = 1) (g2 : fd + 1 = R) : LStp0 false T R ⟨1, seq, i, fd, none, er, tm⟩ W st kd wd vl ch ⟨⟨0, (W.getD 2 0), 0, (fd + 1), none, 17, tm⟩, 2, W.getD 2 0⟩ := by
  have t1 := B.t1
  have t8 := B.t8
  have r1 := B.r1
  have r4 := B.r4
  have hl := B.hl
  have s0 := B.s0
  have s1 := B.s1
  have f0 : 0 ≤ fd := C.f0
  have f1 : fd < R := C.f1
  have hr := right_FR t1 t8 r1 r4
  have l2 : (2 : Int) < (W.length : Int) := by omega
  have w2 := (B.hw 2).1
  have w2' := (B.hw 2).2
  have ewf : IntKind.i64.wrap (fd + 1) = fd + 1 := wi64 (by omega) (by omega)
  have wev : (W.getD 2 0).tmod 2 = W.getD 2 0 % 2 := Int.tmod_eq_emod_of_nonneg w2
  have ewR : IntKind.i64.wrap (fd + 1) = R := by rw [ewf, g2]
  refine gives_x hXFt (fn := Tryz.f20) rfl rfl rfl rfl fun ρ w => ?_
  dsimp only [lsC, lnx, slV, mvL, kpE, cond_true, cond_false]
  refine sx hXFt [] 4000 rfl (by (simp [-List.getD_eq_getElem?_getD, -List.length_eq_zero_iff, conjP, s0, l2] <;> (first | omega | ((repeat' (refine And.intro ?_ ?_)) <;> (first | omega | exact decide_eq_false (by omega) | exact decide_eq_true (by omega)))))) ?_
  refine sx hXFt [.T] 4000 rfl (by (simp [-List.getD_eq_getElem?_getD, -List.length_eq_zero_iff, conjP, addOP, wev, two_nat, g])) ?_
  refine sx hXFt [.T] 4000 rfl (by (simp [-List.getD_eq_getElem?_getD, -List.length_eq_zero_iff, conjP, addOP, ewR])) ?_
  refine sx hXFt [.F] 4000 rfl (by (simp [-List.getD_eq_getElem?_getD, -List.length_eq_zero_iff, conjP, addOP])) ?_
  (try simp only [two_nat, ewf]; refine ss_end hXFt [0, 1, 2] rfl rfl trivial rfl rfl rfl rfl ?hv ?hh ?hk ?ho; (case hv => exact clF); (case hh => exact clF); (case hk => exact clF); (case ho => exact clF))
set_option maxHeartbeats 4000000 in
theorem l1fn (B : FB T R W st) (C : LC T R ⟨1, seq, i, fd, none, er, tm⟩) (g : W.getD 2 0 % 2 = 1) (g2 : ¬ fd + 1 = R) : LStp0 false T R ⟨1, seq, i, fd, none, er, tm⟩ W st kd wd vl ch ⟨⟨1, (W.getD 2 0), 0, (fd + 1), none, 0, tm⟩, 2, W.getD 2 0⟩ := by
  have t1 := B.t1
  have t8 := B.t8
  have r1 := B.r1
  have r4 := B.r4
  have hl := B.hl
  have s0 := B.s0
  have s1 := B.s1
  have f0 : 0 ≤ fd := C.f0
  have f1 : fd < R := C.f1
  have hr := right_FR t1 t8 r1 r4
  have l2 : (2 : Int) < (W.length : Int) := by omega
  have w2 := (B.hw 2).1
  have w2' := (B.hw 2).2
  have ewf : IntKind.i64.wrap (fd + 1) = fd + 1 := wi64 (by omega) (by omega)
  have wev : (W.getD 2 0).tmod 2 = W.getD 2 0 % 2 := Int.tmod_eq_emod_of_nonneg w2
  refine gives_x hXFt (fn := Tryz.f20) rfl rfl rfl rfl fun ρ w => ?_
  dsimp only [lsC, lnx, slV, mvL, kpE, cond_true, cond_false]
  refine sx hXFt [] 4000 rfl (by (simp [-List.getD_eq_getElem?_getD, -List.length_eq_zero_iff, conjP, s0, l2] <;> (first | omega | ((repeat' (refine And.intro ?_ ?_)) <;> (first | omega | exact decide_eq_false (by omega) | exact decide_eq_true (by omega)))))) ?_
  refine sx hXFt [.T] 4000 rfl (by (simp [-List.getD_eq_getElem?_getD, -List.length_eq_zero_iff, conjP, addOP, wev, two_nat, g])) ?_
  refine sx hXFt [.F] 4000 rfl (by (simp [-List.getD_eq_getElem?_getD, -List.length_eq_zero_iff, conjP, addOP, ewf, g2])) ?_
  (try simp only [two_nat, ewf]; refine ss_end hXFt [0, 1, 2] rfl rfl trivial rfl rfl rfl rfl ?hv ?hh ?hk ?ho; (case hv => exact clF); (case hh => exact clF); (case hk => exact clF); (case ho => exact clF))
set_option maxHeartbeats 4000000 in
theorem l2ftn (B : FB T R W st) (C : LC T R ⟨2, seq, i, fd, none, er, tm⟩) (hK : isK (W.getD (fP i) 0) = false) (hi2 : i + 1 = T) : LStp0 false T R ⟨2, seq, i, fd, none, er, tm⟩ W st kd wd vl ch ⟨⟨4, seq, (i + 1), fd, none, er, tm⟩, (fP i : Int), W.getD (fP i) 0⟩ := by
  have t1 := B.t1
  have t8 := B.t8
  have r1 := B.r1
  have r4 := B.r4
  have hl := B.hl
  have s0 := B.s0
  have s1 := B.s1
  have f0 : 0 ≤ fd := C.f0
  have f1 : fd < R := C.f1
  have hr := right_FR t1 t8 r1 r4
  have l2 : (2 : Int) < (W.length : Int) := by omega
  have w2 := (B.hw 2).1
  have w2' := (B.hw 2).2
  have ewf : IntKind.i64.wrap (fd + 1) = fd + 1 := wi64 (by omega) (by omega)
  have hi : i < T := C.it rfl
  have ewi : IntKind.i64.wrap ((i : Int) + 1) = ((i + 1 : Nat) : Int) := by rw [wi64 (by omega) (by omega)]; omega
  have en := fent_at (R := R) hi
  have el := fP_lt' hl hi
  have w0 := (B.hw (fP i)).1
  have w1 := (B.hw (fP i)).2
  have kyv : kyW (W.getD (fP i) 0) = 0 := by unfold kyW; rw [hK]; rfl
  have ewT : IntKind.i64.wrap ((i : Int) + 1) = (T : Int) := by rw [ewi]; omega
  refine gives_x hXFt (fn := Tryz.f20) rfl rfl rfl rfl fun ρ w => ?_
  dsimp only [lsC, lnx, slV, mvL, kpE, cond_true, cond_false]
  refine sx hXFt [] 4000 rfl (by (simp [-List.getD_eq_getElem?_getD, -List.length_eq_zero_iff, conjP, hr, s0, en, el, w0, w1, Int.toNat_natCast] <;> (first | omega | ((repeat' (refine And.intro ?_ ?_)) <;> (first | omega | exact decide_eq_false (by omega) | exact decide_eq_true (by omega)))))) ?_
  refine sx hXFt [.F] 4000 rfl (by (simp [-List.getD_eq_getElem?_getD, -List.length_eq_zero_iff, conjP, addOP, en, Int.toNat_natCast, hK])) ?_
  refine sx hXFt [.T] 4000 rfl (by (simp [-List.getD_eq_getElem?_getD, -List.length_eq_zero_iff, conjP, addOP, ewT])) ?_
  (try simp only [en, ewi, Int.toNat_natCast]; refine ss_end hXFt [0, 1, 2] rfl rfl trivial rfl rfl rfl rfl ?hv ?hh ?hk ?ho; (case hv => exact clF); (case hh => exact clF); (case hk => exact clF); (case ho => exact clF))
set_option maxHeartbeats 4000000 in
theorem l2fnn (B : FB T R W st) (C : LC T R ⟨2, seq, i, fd, none, er, tm⟩) (hK : isK (W.getD (fP i) 0) = false) (hi2 : ¬ i + 1 = T) : LStp0 false T R ⟨2, seq, i, fd, none, er, tm⟩ W st kd wd vl ch ⟨⟨2, seq, (i + 1), fd, none, er, tm⟩, (fP i : Int), W.getD (fP i) 0⟩ := by
  have t1 := B.t1
  have t8 := B.t8
  have r1 := B.r1
  have r4 := B.r4
  have hl := B.hl
  have s0 := B.s0
  have s1 := B.s1
  have f0 : 0 ≤ fd := C.f0
  have f1 : fd < R := C.f1
  have hr := right_FR t1 t8 r1 r4
  have l2 : (2 : Int) < (W.length : Int) := by omega
  have w2 := (B.hw 2).1
  have w2' := (B.hw 2).2
  have ewf : IntKind.i64.wrap (fd + 1) = fd + 1 := wi64 (by omega) (by omega)
  have hi : i < T := C.it rfl
  have ewi : IntKind.i64.wrap ((i : Int) + 1) = ((i + 1 : Nat) : Int) := by rw [wi64 (by omega) (by omega)]; omega
  have en := fent_at (R := R) hi
  have el := fP_lt' hl hi
  have w0 := (B.hw (fP i)).1
  have w1 := (B.hw (fP i)).2
  have kyv : kyW (W.getD (fP i) 0) = 0 := by unfold kyW; rw [hK]; rfl
  have hiT : ¬ ((i + 1 : Nat) : Int) = (T : Int) := by omega
  have hiT2 : ¬ (i : Int) + 1 = (T : Int) := by omega
  refine gives_x hXFt (fn := Tryz.f20) rfl rfl rfl rfl fun ρ w => ?_
  dsimp only [lsC, lnx, slV, mvL, kpE, cond_true, cond_false]
  refine sx hXFt [] 4000 rfl (by (simp [-List.getD_eq_getElem?_getD, -List.length_eq_zero_iff, conjP, hr, s0, en, el, w0, w1, Int.toNat_natCast] <;> (first | omega | ((repeat' (refine And.intro ?_ ?_)) <;> (first | omega | exact decide_eq_false (by omega) | exact decide_eq_true (by omega)))))) ?_
  refine sx hXFt [.F] 4000 rfl (by (simp [-List.getD_eq_getElem?_getD, -List.length_eq_zero_iff, conjP, addOP, en, Int.toNat_natCast, hK])) ?_
  refine sx hXFt [.F] 4000 rfl (by (simp [-List.getD_eq_getElem?_getD, -List.length_eq_zero_iff, conjP, addOP, ewi, hiT2])) ?_
  (try simp only [en, ewi, Int.toNat_natCast]; refine ss_end hXFt [0, 1, 2] rfl rfl trivial rfl rfl rfl rfl ?hv ?hh ?hk ?ho; (case hv => exact clF); (case hh => exact clF); (case hk => exact clF); (case ho => exact clF))
set_option maxHeartbeats 4000000 in
theorem l2ttn (B : FB T R W st) (C : LC T R ⟨2, seq, i, fd, none, er, tm⟩) (hK : isK (W.getD (fP i) 0) = true) (hi2 : i + 1 = T) : LStp0 true T R ⟨2, seq, i, fd, none, er, tm⟩ W st kd wd vl ch ⟨⟨4, seq, (i + 1), fd, (some (lst (none) ++ [W.getD (fP i) 0 / 4])), er, tm⟩, (fP i : Int), W.getD (fP i) 0⟩ := by
  have t1 := B.t1
  have t8 := B.t8
  have r1 := B.r1
  have r4 := B.r4
  have hl := B.hl
  have s0 := B.s0
  have s1 := B.s1
  have f0 : 0 ≤ fd := C.f0
  have f1 : fd < R := C.f1
  have hr := right_FR t1 t8 r1 r4
  have l2 : (2 : Int) < (W.length : Int) := by omega
  have w2 := (B.hw 2).1
  have w2' := (B.hw 2).2
  have ewf : IntKind.i64.wrap (fd + 1) = fd + 1 := wi64 (by omega) (by omega)
  have hi : i < T := C.it rfl
  have ewi : IntKind.i64.wrap ((i : Int) + 1) = ((i + 1 : Nat) : Int) := by rw [wi64 (by omega) (by omega)]; omega
  have en := fent_at (R := R) hi
  have el := fP_lt' hl hi
  have w0 := (B.hw (fP i)).1
  have w1 := (B.hw (fP i)).2
  have kyv : kyW (W.getD (fP i) 0) = W.getD (fP i) 0 / 4 := by unfold kyW; rw [hK]; rfl
  have ewT : IntKind.i64.wrap ((i : Int) + 1) = (T : Int) := by rw [ewi]; omega
  refine gives_x hXFt (fn := Tryz.f20) rfl rfl rfl rfl fun ρ w => ?_
  dsimp only [lsC, lnx, slV, mvL, kpE, cond_true, cond_false]
  refine sx hXFt [] 4000 rfl (by (simp [-List.getD_eq_getElem?_getD, -List.length_eq_zero_iff, conjP, hr, s0, en, el, w0, w1, Int.toNat_natCast] <;> (first | omega | ((repeat' (refine And.intro ?_ ?_)) <;> (first | omega | exact decide_eq_false (by omega) | exact decide_eq_true (by omega)))))) ?_
  refine sx hXFt [.T] 4000 rfl (by (simp [-List.getD_eq_getElem?_getD, -List.length_eq_zero_iff, conjP, en, kyv, Int.toNat_natCast, hK])) ?_
  refine sx hXFt [.T] 4000 rfl (by (simp [-List.getD_eq_getElem?_getD, -List.length_eq_zero_iff, conjP, addOP, ewT])) ?_
  (try simp only [en, ewi, kyv, Int.toNat_natCast]; refine ss_end hXFt [0, 1, 2, 4] rfl rfl trivial rfl rfl rfl rfl ?hv ?hh ?hk ?ho; (case hv => exact clF); (case hh => exact clF); (case hk => exact clF); (case ho => exact clF))
set_option maxHeartbeats 4000000 in
theorem l2tnn (B : FB T R W st) (C : LC T R ⟨2, seq, i, fd, none, er, tm⟩) (hK : isK (W.getD (fP i) 0) = true) (hi2 : ¬ i + 1 = T) : LStp0 true T R ⟨2, seq, i, fd, none, er, tm⟩ W st kd wd vl ch ⟨⟨2, seq, (i + 1), fd, (some (lst (none) ++ [W.getD (fP i) 0 / 4])), er, tm⟩, (fP i : Int), W.getD (fP i) 0⟩ := by
  have t1 := B.t1
  have t8 := B.t8
  have r1 := B.r1
  have r4 := B.r4
  have hl := B.hl
  have s0 := B.s0
  have s1 := B.s1
  have f0 : 0 ≤ fd := C.f0
  have f1 : fd < R := C.f1
  have hr := right_FR t1 t8 r1 r4
  have l2 : (2 : Int) < (W.length : Int) := by omega
  have w2 := (B.hw 2).1
  have w2' := (B.hw 2).2
  have ewf : IntKind.i64.wrap (fd + 1) = fd + 1 := wi64 (by omega) (by omega)
  have hi : i < T := C.it rfl
  have ewi : IntKind.i64.wrap ((i : Int) + 1) = ((i + 1 : Nat) : Int) := by rw [wi64 (by omega) (by omega)]; omega
  have en := fent_at (R := R) hi
  have el := fP_lt' hl hi
  have w0 := (B.hw (fP i)).1
  have w1 := (B.hw (fP i)).2
  have kyv : kyW (W.getD (fP i) 0) = W.getD (fP i) 0 / 4 := by unfold kyW; rw [hK]; rfl
  have hiT : ¬ ((i + 1 : Nat) : Int) = (T : Int) := by omega
  have hiT2 : ¬ (i : Int) + 1 = (T : Int) := by omega
  refine gives_x hXFt (fn := Tryz.f20) rfl rfl rfl rfl fun ρ w => ?_
  dsimp only [lsC, lnx, slV, mvL, kpE, cond_true, cond_false]
  refine sx hXFt [] 4000 rfl (by (simp [-List.getD_eq_getElem?_getD, -List.length_eq_zero_iff, conjP, hr, s0, en, el, w0, w1, Int.toNat_natCast] <;> (first | omega | ((repeat' (refine And.intro ?_ ?_)) <;> (first | omega | exact decide_eq_false (by omega) | exact decide_eq_true (by omega)))))) ?_
  refine sx hXFt [.T] 4000 rfl (by (simp [-List.getD_eq_getElem?_getD, -List.length_eq_zero_iff, conjP, en, kyv, Int.toNat_natCast, hK])) ?_
  refine sx hXFt [.F] 4000 rfl (by (simp [-List.getD_eq_getElem?_getD, -List.length_eq_zero_iff, conjP, addOP, ewi, hiT2])) ?_
  (try simp only [en, ewi, kyv, Int.toNat_natCast]; refine ss_end hXFt [0, 1, 2, 4] rfl rfl trivial rfl rfl rfl rfl ?hv ?hh ?hk ?ho; (case hv => exact clF); (case hh => exact clF); (case hk => exact clF); (case ho => exact clF))
set_option maxHeartbeats 4000000 in
theorem l4sn (B : FB T R W st) (C : LC T R ⟨4, seq, i, fd, none, er, tm⟩) (g : W.getD 2 0 = seq) : LStp0 false T R ⟨4, seq, i, fd, none, er, tm⟩ W st kd wd vl ch ⟨⟨0, seq, i, fd, none, er, (st + 1)⟩, 2, W.getD 2 0⟩ := by
  have t1 := B.t1
  have t8 := B.t8
  have r1 := B.r1
  have r4 := B.r4
  have hl := B.hl
  have s0 := B.s0
  have s1 := B.s1
  have f0 : 0 ≤ fd := C.f0
  have f1 : fd < R := C.f1
  have hr := right_FR t1 t8 r1 r4
  have l2 : (2 : Int) < (W.length : Int) := by omega
  have w2 := (B.hw 2).1
  have w2' := (B.hw 2).2
  have ewf : IntKind.i64.wrap (fd + 1) = fd + 1 := wi64 (by omega) (by omega)
  have ews : IntKind.i64.wrap (st + 1) = st + 1 := wi64 (by omega) (by omega)
  refine gives_x hXFt (fn := Tryz.f20) rfl rfl rfl rfl fun ρ w => ?_
  dsimp only [lsC, lnx, slV, mvL, kpE, cond_true, cond_false]
  refine sx hXFt [] 4000 rfl (by (simp [-List.getD_eq_getElem?_getD, -List.length_eq_zero_iff, conjP, getH, HE.so, s0, l2] <;> (first | omega | ((repeat' (refine And.intro ?_ ?_)) <;> (first | omega | exact decide_eq_false (by omega) | exact decide_eq_true (by omega)))))) ?_
  refine sx hXFt [.F] 4000 rfl (by (simp [-List.getD_eq_getElem?_getD, -List.length_eq_zero_iff, conjP, addOP, two_nat, g])) ?_
  (try simp only [two_nat, g]; refine ss_end hXFt [0, 1, 2] rfl rfl trivial rfl rfl rfl rfl ?hv ?hh ?hk ?ho; (case hv => exact clF); (case hh => exact clF); (case hk => exact clF); (case ho => exact clF))
set_option maxHeartbeats 4000000 in
theorem l4ln (B : FB T R W st) (C : LC T R ⟨4, seq, i, fd, none, er, tm⟩) (g : ¬ W.getD 2 0 = seq) (g2 : fd + 1 = R) : LStp0 false T R ⟨4, seq, i, fd, none, er, tm⟩ W st kd wd vl ch ⟨⟨0, seq, i, (fd + 1), none, 17, (st + 1)⟩, 2, W.getD 2 0⟩ := by
  have t1 := B.t1
  have t8 := B.t8
  have r1 := B.r1
  have r4 := B.r4
  have hl := B.hl
  have s0 := B.s0
  have s1 := B.s1
  have f0 : 0 ≤ fd := C.f0
  have f1 : fd < R := C.f1
  have hr := right_FR t1 t8 r1 r4
  have l2 : (2 : Int) < (W.length : Int) := by omega
  have w2 := (B.hw 2).1
  have w2' := (B.hw 2).2
  have ewf : IntKind.i64.wrap (fd + 1) = fd + 1 := wi64 (by omega) (by omega)
  have ews : IntKind.i64.wrap (st + 1) = st + 1 := wi64 (by omega) (by omega)
  have ewR : IntKind.i64.wrap (fd + 1) = R := by rw [ewf, g2]
  refine gives_x hXFt (fn := Tryz.f20) rfl rfl rfl rfl fun ρ w => ?_
  dsimp only [lsC, lnx, slV, mvL, kpE, cond_true, cond_false]
  refine sx hXFt [] 4000 rfl (by (simp [-List.getD_eq_getElem?_getD, -List.length_eq_zero_iff, conjP, getH, HE.so, s0, l2] <;> (first | omega | ((repeat' (refine And.intro ?_ ?_)) <;> (first | omega | exact decide_eq_false (by omega) | exact decide_eq_true (by omega)))))) ?_
  refine sx hXFt [.T] 4000 rfl (by (simp [-List.getD_eq_getElem?_getD, -List.length_eq_zero_iff, conjP, addOP, two_nat, g])) ?_
  refine sx hXFt [.T] 4000 rfl (by (simp [-List.getD_eq_getElem?_getD, -List.length_eq_zero_iff, conjP, addOP, ewR])) ?_
  refine sx hXFt [.F] 4000 rfl (by (simp [-List.getD_eq_getElem?_getD, -List.length_eq_zero_iff, conjP, addOP])) ?_
  (try simp only [two_nat, ewf]; refine ss_end hXFt [0, 1, 2] rfl rfl trivial rfl rfl rfl rfl ?hv ?hh ?hk ?ho; (case hv => exact clF); (case hh => exact clF); (case hk => exact clF); (case ho => exact clF))
set_option maxHeartbeats 4000000 in
theorem l4fn (B : FB T R W st) (C : LC T R ⟨4, seq, i, fd, none, er, tm⟩) (g : ¬ W.getD 2 0 = seq) (g2 : ¬ fd + 1 = R) : LStp0 false T R ⟨4, seq, i, fd, none, er, tm⟩ W st kd wd vl ch ⟨⟨1, seq, i, (fd + 1), none, 0, (st + 1)⟩, 2, W.getD 2 0⟩ := by
  have t1 := B.t1
  have t8 := B.t8
  have r1 := B.r1
  have r4 := B.r4
  have hl := B.hl
  have s0 := B.s0
  have s1 := B.s1
  have f0 : 0 ≤ fd := C.f0
  have f1 : fd < R := C.f1
  have hr := right_FR t1 t8 r1 r4
  have l2 : (2 : Int) < (W.length : Int) := by omega
  have w2 := (B.hw 2).1
  have w2' := (B.hw 2).2
  have ewf : IntKind.i64.wrap (fd + 1) = fd + 1 := wi64 (by omega) (by omega)
  have ews : IntKind.i64.wrap (st + 1) = st + 1 := wi64 (by omega) (by omega)
  refine gives_x hXFt (fn := Tryz.f20) rfl rfl rfl rfl fun ρ w => ?_
  dsimp only [lsC, lnx, slV, mvL, kpE, cond_true, cond_false]
  refine sx hXFt [] 4000 rfl (by (simp [-List.getD_eq_getElem?_getD, -List.length_eq_zero_iff, conjP, getH, HE.so, s0, l2] <;> (first | omega | ((repeat' (refine And.intro ?_ ?_)) <;> (first | omega | exact decide_eq_false (by omega) | exact decide_eq_true (by omega)))))) ?_
  refine sx hXFt [.T] 4000 rfl (by (simp [-List.getD_eq_getElem?_getD, -List.length_eq_zero_iff, conjP, addOP, two_nat, g])) ?_
  refine sx hXFt [.F] 4000 rfl (by (simp [-List.getD_eq_getElem?_getD, -List.length_eq_zero_iff, conjP, addOP, ewf, g2])) ?_
  (try simp only [two_nat, ewf]; refine ss_end hXFt [0, 1, 2] rfl rfl trivial rfl rfl rfl rfl ?hv ?hh ?hk ?ho; (case hv => exact clF); (case hh => exact clF); (case hk => exact clF); (case ho => exact clF))
set_option maxHeartbeats 4000000 in
theorem l1es {l : List Int} (B : FB T R W st) (C : LC T R ⟨1, seq, i, fd, some l, er, tm⟩) (hi9 : i ≤ 8) (g : ¬ W.getD 2 0 % 2 = 1) : LStp1 false l T R ⟨1, seq, i, fd, some l, er, tm⟩ W st kd wd vl ch ⟨⟨2, (W.getD 2 0), 0, fd, none, 0, tm⟩, 2, W.getD 2 0⟩ := by
  have t1 := B.t1
  have t8 := B.t8
  have r1 := B.r1
  have r4 := B.r4
  have hl := B.hl
  have s0 := B.s0
  have s1 := B.s1
  have f0 : 0 ≤ fd := C.f0
  have f1 : fd < R := C.f1
  have hr := right_FR t1 t8 r1 r4
  have l2 : (2 : Int) < (W.length : Int) := by omega
  have w2 := (B.hw 2).1
  have w2' := (B.hw 2).2
  have ewf : IntKind.i64.wrap (fd + 1) = fd + 1 := wi64 (by omega) (by omega)
  have hll : l.length ≤ i := C.tl
  have hl9 : l.length < 1000000 := by have := hi9; omega
  have hlw : l.length + 1 ≤ 4294967296 := by omega
  have wev : (W.getD 2 0).tmod 2 = W.getD 2 0 % 2 := Int.tmod_eq_emod_of_nonneg w2
  refine gives_x hXFt (fn := Tryz.f20) rfl rfl rfl rfl fun ρ w => ?_
  dsimp only [lsC, lnx, slV, mvL, kpE, cond_true, cond_false]
  refine sx hXFt [] 4000 rfl (by (simp [-List.getD_eq_getElem?_getD, -List.length_eq_zero_iff, conjP, s0, l2] <;> (first | omega | ((repeat' (refine And.intro ?_ ?_)) <;> (first | omega | exact decide_eq_false (by omega) | exact decide_eq_true (by omega)))))) ?_
  refine sx hXFt [.F] 4000 rfl (by (simp [-List.getD_eq_getElem?_getD, -List.length_eq_zero_iff, conjP, addOP, wev, two_nat, g])) ?_
  (try simp only [two_nat]; refine ss_end hXFt [0, 1, 2, 3] rfl rfl trivial rfl rfl rfl rfl ?hv ?hh ?hk ?ho; (case hv => exact clF); (case hh => exact clF); (case hk => exact clF); (case ho => exact clF))
set_option maxHeartbeats 4000000 in
theorem l1ls {l : List Int} (B : FB T R W st) (C : LC T R ⟨1, seq, i, fd, some l, er, tm⟩) (hi9 : i ≤ 8) (g : W.getD 2 0 % 2 = 1) (g2 : fd + 1 = R) : LStp1 false l T R ⟨1, seq, i, fd, some l, er, tm⟩ W st kd wd vl ch ⟨⟨0, (W.getD 2 0), 0, (fd + 1), none, 17, tm⟩, 2, W.getD 2 0⟩ := by
  have t1 := B.t1
  have t8 := B.t8
  have r1 := B.r1
  have r4 := B.r4
  have hl := B.hl
  have s0 := B.s0
  have s1 := B.s1
  have f0 : 0 ≤ fd := C.f0
  have f1 : fd < R := C.f1
  have hr := right_FR t1 t8 r1 r4
  have l2 : (2 : Int) < (W.length : Int) := by omega
  have w2 := (B.hw 2).1
  have w2' := (B.hw 2).2
  have ewf : IntKind.i64.wrap (fd + 1) = fd + 1 := wi64 (by omega) (by omega)
  have hll : l.length ≤ i := C.tl
  have hl9 : l.length < 1000000 := by have := hi9; omega
  have hlw : l.length + 1 ≤ 4294967296 := by omega
  have wev : (W.getD 2 0).tmod 2 = W.getD 2 0 % 2 := Int.tmod_eq_emod_of_nonneg w2
  have ewR : IntKind.i64.wrap (fd + 1) = R := by rw [ewf, g2]
  refine gives_x hXFt (fn := Tryz.f20) rfl rfl rfl rfl fun ρ w => ?_
  dsimp only [lsC, lnx, slV, mvL, kpE, cond_true, cond_false]
  refine sx hXFt [] 4000 rfl (by (simp [-List.getD_eq_getElem?_getD, -List.length_eq_zero_iff, conjP, s0, l2] <;> (first | omega | ((repeat' (refine And.intro ?_ ?_)) <;> (first | omega | exact decide_eq_false (by omega) | exact decide_eq_true (by omega)))))) ?_
  refine sx hXFt [.T] 4000 rfl (by (simp [-List.getD_eq_getElem?_getD, -List.length_eq_zero_iff, conjP, addOP, wev, two_nat, g])) ?_
  refine sx hXFt [.T] 4000 rfl (by (simp [-List.getD_eq_getElem?_getD, -List.length_eq_zero_iff, conjP, addOP, ewR])) ?_
  refine sx hXFt [.F] 4000 rfl (by (simp [-List.getD_eq_getElem?_getD, -List.length_eq_zero_iff, conjP, addOP])) ?_
  (try simp only [two_nat, ewf]; refine ss_end hXFt [0, 1, 2, 3] rfl rfl trivial rfl rfl rfl rfl ?hv ?hh ?hk ?ho; (case hv => exact clF); (case hh => exact clF); (case hk => exact clF); (case ho => exact clF))
set_option maxHeartbeats 4000000 in
theorem l1fs {l : List Int} (B : FB T R W st) (C : LC T R ⟨1, seq, i, fd, some l, er, tm⟩) (hi9 : i ≤ 8) (g : W.getD 2 0 % 2 = 1) (g2 : ¬ fd + 1 = R) : LStp1 false l T R ⟨1, seq, i, fd, some l, er, tm⟩ W st kd wd vl ch ⟨⟨1, (W.getD 2 0), 0, (fd + 1), none, 0, tm⟩, 2, W.getD 2 0⟩ := by
  have t1 := B.t1
  have t8 := B.t8
  have r1 := B.r1
  have r4 := B.r4
  have hl := B.hl
  have s0 := B.s0
  have s1 := B.s1
  have f0 : 0 ≤ fd := C.f0
  have f1 : fd < R := C.f1
  have hr := right_FR t1 t8 r1 r4
  have l2 : (2 : Int) < (W.length : Int) := by omega
  have w2 := (B.hw 2).1
  have w2' := (B.hw 2).2
  have ewf : IntKind.i64.wrap (fd + 1) = fd + 1 := wi64 (by omega) (by omega)
  have hll : l.length ≤ i := C.tl
  have hl9 : l.length < 1000000 := by have := hi9; omega
  have hlw : l.length + 1 ≤ 4294967296 := by omega
  have wev : (W.getD 2 0).tmod 2 = W.getD 2 0 % 2 := Int.tmod_eq_emod_of_nonneg w2
  refine gives_x hXFt (fn := Tryz.f20) rfl rfl rfl rfl fun ρ w => ?_
  dsimp only [lsC, lnx, slV, mvL, kpE, cond_true, cond_false]
  refine sx hXFt [] 4000 rfl (by (simp [-List.getD_eq_getElem?_getD, -List.length_eq_zero_iff, conjP, s0, l2] <;> (first | omega | ((repeat' (refine And.intro ?_ ?_)) <;> (first | omega | exact decide_eq_false (by omega) | exact decide_eq_true (by omega)))))) ?_
  refine sx hXFt [.T] 4000 rfl (by (simp [-List.getD_eq_getElem?_getD, -List.length_eq_zero_iff, conjP, addOP, wev, two_nat, g])) ?_
  refine sx hXFt [.F] 4000 rfl (by (simp [-List.getD_eq_getElem?_getD, -List.length_eq_zero_iff, conjP, addOP, ewf, g2])) ?_
  (try simp only [two_nat, ewf]; refine ss_end hXFt [0, 1, 2, 3] rfl rfl trivial rfl rfl rfl rfl ?hv ?hh ?hk ?ho; (case hv => exact clF); (case hh => exact clF); (case hk => exact clF); (case ho => exact clF))
set_option maxHeartbeats 4000000 in
theorem l2fts {l : List Int} (B : FB T R W st) (C : LC T R ⟨2, seq, i, fd, some l, er, tm⟩) (hK : isK (W.getD (fP i) 0) = false) (hi2 : i + 1 = T) : LStp1 false l T R ⟨2, seq, i, fd, some l, er, tm⟩ W st kd wd vl ch ⟨⟨4, seq, (i + 1), fd, some l, er, tm⟩, (fP i : Int), W.getD (fP i) 0⟩ := by
  have t1 := B.t1
  have t8 := B.t8
  have r1 := B.r1
  have r4 := B.r4
  have hl := B.hl
  have s0 := B.s0
  have s1 := B.s1
  have f0 : 0 ≤ fd := C.f0
  have f1 : fd < R := C.f1
  have hr := right_FR t1 t8 r1 r4
  have l2 : (2 : Int) < (W.length : Int) := by omega
  have w2 := (B.hw 2).1
  have w2' := (B.hw 2).2
  have ewf : IntKind.i64.wrap (fd + 1) = fd + 1 := wi64 (by omega) (by omega)
  have hii : i < T := C.it rfl
  have hll : l.length ≤ i := C.tl
  have hl9 : l.length < 1000000 := by have := hii; omega
  have hlw : l.length + 1 ≤ 4294967296 := by omega
  have hi : i < T := C.it rfl
  have ewi : IntKind.i64.wrap ((i : Int) + 1) = ((i + 1 : Nat) : Int) := by rw [wi64 (by omega) (by omega)]; omega
  have en := fent_at (R := R) hi
  have el := fP_lt' hl hi
  have w0 := (B.hw (fP i)).1
  have w1 := (B.hw (fP i)).2
  have kyv : kyW (W.getD (fP i) 0) = 0 := by unfold kyW; rw [hK]; rfl
  have ewT : IntKind.i64.wrap ((i : Int) + 1) = (T : Int) := by rw [ewi]; omega
  refine gives_x hXFt (fn := Tryz.f20) rfl rfl rfl rfl fun ρ w => ?_
  dsimp only [lsC, lnx, slV, mvL, kpE, cond_true, cond_false]
  refine sx hXFt [] 4000 rfl (by (simp [-List.getD_eq_getElem?_getD, -List.length_eq_zero_iff, conjP, hr, s0, en, el, w0, w1, Int.toNat_natCast] <;> (first | omega | ((repeat' (refine And.intro ?_ ?_)) <;> (first | omega | exact decide_eq_false (by omega) | exact decide_eq_true (by omega)))))) ?_
  refine sx hXFt [.F] 4000 rfl (by (simp [-List.getD_eq_getElem?_getD, -List.length_eq_zero_iff, conjP, addOP, en, Int.toNat_natCast, hK])) ?_
  refine sx hXFt [.T] 4000 rfl (by (simp [-List.getD_eq_getElem?_getD, -List.length_eq_zero_iff, conjP, addOP, ewT])) ?_
  (try simp only [en, ewi, Int.toNat_natCast]; refine ss_end hXFt [0, 1, 2, 3] rfl rfl trivial rfl rfl rfl rfl ?hv ?hh ?hk ?ho; (case hv => exact clF); (case hh => exact clF); (case hk => exact clF); (case ho => exact clF))
set_option maxHeartbeats 4000000 in
theorem l2fns {l : List Int} (B : FB T R W st) (C : LC T R ⟨2, seq, i, fd, some l, er, tm⟩) (hK : isK (W.getD (fP i) 0) = false) (hi2 : ¬ i + 1 = T) : LStp1 false l T R ⟨2, seq, i, fd, some l, er, tm⟩ W st kd wd vl ch ⟨⟨2, seq, (i + 1), fd, some l, er, tm⟩, (fP i : Int), W.getD (fP i) 0⟩ := by
  have t1 := B.t1
  have t8 := B.t8
  have r1 := B.r1
  have r4 := B.r4
  have hl := B.hl
  have s0 := B.s0
  have s1 := B.s1
  have f0 : 0 ≤ fd := C.f0
  have f1 : fd < R := C.f1
  have hr := right_FR t1 t8 r1 r4
  have l2 : (2 : Int) < (W.length : Int) := by omega
  have w2 := (B.hw 2).1
  have w2' := (B.hw 2).2
  have ewf : IntKind.i64.wrap (fd + 1) = fd + 1 := wi64 (by omega) (by omega)
  have hii : i < T := C.it rfl
  have hll : l.length ≤ i := C.tl
  have hl9 : l.length < 1000000 := by have := hii; omega
  have hlw : l.length + 1 ≤ 4294967296 := by omega
  have hi : i < T := C.it rfl
  have ewi : IntKind.i64.wrap ((i : Int) + 1) = ((i + 1 : Nat) : Int) := by rw [wi64 (by omega) (by omega)]; omega
  have en := fent_at (R := R) hi
  have el := fP_lt' hl hi
  have w0 := (B.hw (fP i)).1
  have w1 := (B.hw (fP i)).2
  have kyv : kyW (W.getD (fP i) 0) = 0 := by unfold kyW; rw [hK]; rfl
  have hiT : ¬ ((i + 1 : Nat) : Int) = (T : Int) := by omega
  have hiT2 : ¬ (i : Int) + 1 = (T : Int) := by omega
  refine gives_x hXFt (fn := Tryz.f20) rfl rfl rfl rfl fun ρ w => ?_
  dsimp only [lsC, lnx, slV, mvL, kpE, cond_true, cond_false]
  refine sx hXFt [] 4000 rfl (by (simp [-List.getD_eq_getElem?_getD, -List.length_eq_zero_iff, conjP, hr, s0, en, el, w0, w1, Int.toNat_natCast] <;> (first | omega | ((repeat' (refine And.intro ?_ ?_)) <;> (first | omega | exact decide_eq_false (by omega) | exact decide_eq_true (by omega)))))) ?_
  refine sx hXFt [.F] 4000 rfl (by (simp [-List.getD_eq_getElem?_getD, -List.length_eq_zero_iff, conjP, addOP, en, Int.toNat_natCast, hK])) ?_
  refine sx hXFt [.F] 4000 rfl (by (simp [-List.getD_eq_getElem?_getD, -List.length_eq_zero_iff, conjP, addOP, ewi, hiT2])) ?_
  (try simp only [en, ewi, Int.toNat_natCast]; refine ss_end hXFt [0, 1, 2, 3] rfl rfl trivial rfl rfl rfl rfl ?hv ?hh ?hk ?ho; (case hv => exact clF); (case hh => exact clF); (case hk => exact clF); (case ho => exact clF))
set_option maxHeartbeats 4000000 in
theorem l2tts {l : List Int} (B : FB T R W st) (C : LC T R ⟨2, seq, i, fd, some l, er, tm⟩) (hK : isK (W.getD (fP i) 0) = true) (hi2 : i + 1 = T) : LStp1 true l T R ⟨2, seq, i, fd, some l, er, tm⟩ W st kd wd vl ch ⟨⟨4, seq, (i + 1), fd, (some (lst (some l) ++ [W.getD (fP i) 0 / 4])), er, tm⟩, (fP i : Int), W.getD (fP i) 0⟩ := by
  have t1 := B.t1
  have t8 := B.t8
  have r1 := B.r1
  have r4 := B.r4
  have hl := B.hl
  have s0 := B.s0
  have s1 := B.s1
  have f0 : 0 ≤ fd := C.f0
  have f1 : fd < R := C.f1
  have hr := right_FR t1 t8 r1 r4
  have l2 : (2 : Int) < (W.length : Int) := by omega
  have w2 := (B.hw 2).1
  have w2' := (B.hw 2).2
  have ewf : IntKind.i64.wrap (fd + 1) = fd + 1 := wi64 (by omega) (by omega)
  have hii : i < T := C.it rfl
  have hll : l.length ≤ i := C.tl
  have hl9 : l.length < 1000000 := by have := hii; omega
  have hlw : l.length + 1 ≤ 4294967296 := by omega
  have hi : i < T := C.it rfl
  have ewi : IntKind.i64.wrap ((i : Int) + 1) = ((i + 1 : Nat) : Int) := by rw [wi64 (by omega) (by omega)]; omega
  have en := fent_at (R := R) hi
  have el := fP_lt' hl hi
  have w0 := (B.hw (fP i)).1
  have w1 := (B.hw (fP i)).2
  have kyv : kyW (W.getD (fP i) 0) = W.getD (fP i) 0 / 4 := by unfold kyW; rw [hK]; rfl
  have ewT : IntKind.i64.wrap ((i : Int) + 1) = (T : Int) := by rw [ewi]; omega
  refine gives_x hXFt (fn := Tryz.f20) rfl rfl rfl rfl fun ρ w => ?_
  dsimp only [lsC, lnx, slV, mvL, kpE, cond_true, cond_false]
  refine sx hXFt [] 4000 rfl (by (simp [-List.getD_eq_getElem?_getD, -List.length_eq_zero_iff, conjP, hr, s0, en, el, w0, w1, Int.toNat_natCast] <;> (first | omega | ((repeat' (refine And.intro ?_ ?_)) <;> (first | omega | exact decide_eq_false (by omega) | exact decide_eq_true (by omega)))))) ?_
  refine sx hXFt [.T] 4000 rfl (by (simp [-List.getD_eq_getElem?_getD, -List.length_eq_zero_iff, conjP, en, kyv, Int.toNat_natCast, hlw, hK])) ?_
  refine sx hXFt [.T] 4000 rfl (by (simp [-List.getD_eq_getElem?_getD, -List.length_eq_zero_iff, conjP, addOP, ewT])) ?_
  (try simp only [en, ewi, kyv, Int.toNat_natCast]; refine ss_end hXFt [0, 1, 2, 3, 5] rfl rfl trivial rfl rfl rfl rfl ?hv ?hh ?hk ?ho; (case hv => exact clF); (case hh => exact clF); (case hk => exact clF); (case ho => exact clF))
set_option maxHeartbeats 4000000 in
theorem l2tns {l : List Int} (B : FB T R W st) (C : LC T R ⟨2, seq, i, fd, some l, er, tm⟩) (hK : isK (W.getD (fP i) 0) = true) (hi2 : ¬ i + 1 = T) : LStp1 true l T R ⟨2, seq, i, fd, some l, er, tm⟩ W st kd wd vl ch ⟨⟨2, seq, (i + 1), fd, (some (lst (some l) ++ [W.getD (fP i) 0 / 4])), er, tm⟩, (fP i : Int), W.getD (fP i) 0⟩ := by
  have t1 := B.t1
  have t8 := B.t8
  have r1 := B.r1
  have r4 := B.r4
  have hl := B.hl
  have s0 := B.s0
  have s1 := B.s1
  have f0 : 0 ≤ fd := C.f0
  have f1 : fd < R := C.f1
  have hr := right_FR t1 t8 r1 r4
  have l2 : (2 : Int) < (W.length : Int) := by omega
  have w2 := (B.hw 2).1
  have w2' := (B.hw 2).2
  have ewf : IntKind.i64.wrap (fd + 1) = fd + 1 := wi64 (by omega) (by omega)
  have hii : i < T := C.it rfl
  have hll : l.length ≤ i := C.tl
  have hl9 : l.length < 1000000 := by have := hii; omega
  have hlw : l.length + 1 ≤ 4294967296 := by omega
  have hi : i < T := C.it rfl
  have ewi : IntKind.i64.wrap ((i : Int) + 1) = ((i + 1 : Nat) : Int) := by rw [wi64 (by omega) (by omega)]; omega
  have en := fent_at (R := R) hi
  have el := fP_lt' hl hi
  have w0 := (B.hw (fP i)).1
  have w1 := (B.hw (fP i)).2
  have kyv : kyW (W.getD (fP i) 0) = W.getD (fP i) 0 / 4 := by unfold kyW; rw [hK]; rfl
  have hiT : ¬ ((i + 1 : Nat) : Int) = (T : Int) := by omega
  have hiT2 : ¬ (i : Int) + 1 = (T : Int) := by omega
  refine gives_x hXFt (fn := Tryz.f20) rfl rfl rfl rfl fun ρ w => ?_
  dsimp only [lsC, lnx, slV, mvL, kpE, cond_true, cond_false]
  refine sx hXFt [] 4000 rfl (by (simp [-List.getD_eq_getElem?_getD, -List.length_eq_zero_iff, conjP, hr, s0, en, el, w0, w1, Int.toNat_natCast] <;> (first | omega | ((repeat' (refine And.intro ?_ ?_)) <;> (first | omega | exact decide_eq_false (by omega) | exact decide_eq_true (by omega)))))) ?_
  refine sx hXFt [.T] 4000 rfl (by (simp [-List.getD_eq_getElem?_getD, -List.length_eq_zero_iff, conjP, en, kyv, Int.toNat_natCast, hlw, hK])) ?_
  refine sx hXFt [.F] 4000 rfl (by (simp [-List.getD_eq_getElem?_getD, -List.length_eq_zero_iff, conjP, addOP, ewi, hiT2])) ?_
  (try simp only [en, ewi, kyv, Int.toNat_natCast]; refine ss_end hXFt [0, 1, 2, 3, 5] rfl rfl trivial rfl rfl rfl rfl ?hv ?hh ?hk ?ho; (case hv => exact clF); (case hh => exact clF); (case hk => exact clF); (case ho => exact clF))
set_option maxHeartbeats 4000000 in
theorem l4ss {l : List Int} (B : FB T R W st) (C : LC T R ⟨4, seq, i, fd, some l, er, tm⟩) (hi9 : i ≤ 8) (g : W.getD 2 0 = seq) : LStp1 false l T R ⟨4, seq, i, fd, some l, er, tm⟩ W st kd wd vl ch ⟨⟨0, seq, i, fd, some l, er, (st + 1)⟩, 2, W.getD 2 0⟩ := by
  have t1 := B.t1
  have t8 := B.t8
  have r1 := B.r1
  have r4 := B.r4
  have hl := B.hl
  have s0 := B.s0
  have s1 := B.s1
  have f0 : 0 ≤ fd := C.f0
  have f1 : fd < R := C.f1
  have hr := right_FR t1 t8 r1 r4
  have l2 : (2 : Int) < (W.length : Int) := by omega
  have w2 := (B.hw 2).1
  have w2' := (B.hw 2).2
  have ewf : IntKind.i64.wrap (fd + 1) = fd + 1 := wi64 (by omega) (by omega)
  have hll : l.length ≤ i := C.tl
  have hl9 : l.length < 1000000 := by have := hi9; omega
  have hlw : l.length + 1 ≤ 4294967296 := by omega
  have ews : IntKind.i64.wrap (st + 1) = st + 1 := wi64 (by omega) (by omega)
  refine gives_x hXFt (fn := Tryz.f20) rfl rfl rfl rfl fun ρ w => ?_
  dsimp only [lsC, lnx, slV, mvL, kpE, cond_true, cond_false]
  refine sx hXFt [] 4000 rfl (by (simp [-List.getD_eq_getElem?_getD, -List.length_eq_zero_iff, conjP, getH, HE.so, s0, l2] <;> (first | omega | ((repeat' (refine And.intro ?_ ?_)) <;> (first | omega | exact decide_eq_false (by omega) | exact decide_eq_true (by omega)))))) ?_
  refine sx hXFt [.F] 4000 rfl (by (simp [-List.getD_eq_getElem?_getD, -List.length_eq_zero_iff, conjP, addOP, two_nat, g])) ?_
  (try simp only [two_nat, g]; refine ss_end hXFt [0, 1, 2, 3] rfl rfl trivial rfl rfl rfl rfl ?hv ?hh ?hk ?ho; (case hv => exact clF); (case hh => exact clF); (case hk => exact clF); (case ho => exact clF))
set_option maxHeartbeats 4000000 in
theorem l4ls {l : List Int} (B : FB T R W st) (C : LC T R ⟨4, seq, i, fd, some l, er, tm⟩) (hi9 : i ≤ 8) (g : ¬ W.getD 2 0 = seq) (g2 : fd + 1 = R) : LStp1 false l T R ⟨4, seq, i, fd, some l, er, tm⟩ W st kd wd vl ch ⟨⟨0, seq, i, (fd + 1), none, 17, (st + 1)⟩, 2, W.getD 2 0⟩ := by
  have t1 := B.t1
  have t8 := B.t8
  have r1 := B.r1
  have r4 := B.r4
  have hl := B.hl
  have s0 := B.s0
  have s1 := B.s1
  have f0 : 0 ≤ fd := C.f0
  have f1 : fd < R := C.f1
  have hr := right_FR t1 t8 r1 r4
  have l2 : (2 : Int) < (W.length : Int) := by omega
  have w2 := (B.hw 2).1
  have w2' := (B.hw 2).2
  have ewf : IntKind.i64.wrap (fd + 1) = fd + 1 := wi64 (by omega) (by omega)
  have hll : l.length ≤ i := C.tl
  have hl9 : l.length < 1000000 := by have := hi9; omega
  have hlw : l.length + 1 ≤ 4294967296 := by omega
  have ews : IntKind.i64.wrap (st + 1) = st + 1 := wi64 (by omega) (by omega)
  have ewR : IntKind.i64.wrap (fd + 1) = R := by rw [ewf, g2]
  refine gives_x hXFt (fn := Tryz.f20) rfl rfl rfl rfl fun ρ w => ?_
  dsimp only [lsC, lnx, slV, mvL, kpE, cond_true, cond_false]
  refine sx hXFt [] 4000 rfl (by (simp [-List.getD_eq_getElem?_getD, -List.length_eq_zero_iff, conjP, getH, HE.so, s0, l2] <;> (first | omega | ((repeat' (refine And.intro ?_ ?_)) <;> (first | omega | exact decide_eq_false (by omega) | exact decide_eq_true (by omega)))))) ?_
  refine sx hXFt [.T] 4000 rfl (by (simp [-List.getD_eq_getElem?_getD, -List.length_eq_zero_iff, conjP, addOP, two_nat, g])) ?_
  refine sx hXFt [.T] 4000 rfl (by (simp [-List.getD_eq_getElem?_getD, -List.length_eq_zero_iff, conjP, addOP, ewR])) ?_
  refine sx hXFt [.F] 4000 rfl (by (simp [-List.getD_eq_getElem?_getD, -List.length_eq_zero_iff, conjP, addOP])) ?_
  (try simp only [two_nat, ewf]; refine ss_end hXFt [0, 1, 2, 3] rfl rfl trivial rfl rfl rfl rfl ?hv ?hh ?hk ?ho; (case hv => exact clF); (case hh => exact clF); (case hk => exact clF); (case ho => exact clF))
set_option maxHeartbeats 4000000 in
theorem l4fs {l : List Int} (B : FB T R W st) (C : LC T R ⟨4, seq, i, fd, some l, er, tm⟩) (hi9 : i ≤ 8) (g : ¬ W.getD 2 0 = seq) (g2 : ¬ fd + 1 = R) : LStp1 false l T R ⟨4, seq, i, fd, some l, er, tm⟩ W st kd wd vl ch ⟨⟨1, seq, i, (fd + 1), none, 0, (st + 1)⟩, 2, W.getD 2 0⟩ := by
  have t1 := B.t1
  have t8 := B.t8
  have r1 := B.r1
  have r4 := B.r4
  have hl := B.hl
  have s0 := B.s0
  have s1 := B.s1
  have f0 : 0 ≤ fd := C.f0
  have f1 : fd < R := C.f1
  have hr := right_FR t1 t8 r1 r4
  have l2 : (2 : Int) < (W.length : Int) := by omega
  have w2 := (B.hw 2).1
  have w2' := (B.hw 2).2
  have ewf : IntKind.i64.wrap (fd + 1) = fd + 1 := wi64 (by omega) (by omega)
  have hll : l.length ≤ i := C.tl
  have hl9 : l.length < 1000000 := by have := hi9; omega
  have hlw : l.length + 1 ≤ 4294967296 := by omega
  have ews : IntKind.i64.wrap (st + 1) = st + 1 := wi64 (by omega) (by omega)
  refine gives_x hXFt (fn := Tryz.f20) rfl rfl rfl rfl fun ρ w => ?_
  dsimp only [lsC, lnx, slV, mvL, kpE, cond_true, cond_false]
  refine sx hXFt [] 4000 rfl (by (simp [-List.getD_eq_getElem?_getD, -List.length_eq_zero_iff, conjP, getH, HE.so, s0, l2] <;> (first | omega | ((repeat' (refine And.intro ?_ ?_)) <;> (first | omega | exact decide_eq_false (by omega) | exact decide_eq_true (by omega)))))) ?_
  refine sx hXFt [.T] 4000 rfl (by (simp [-List.getD_eq_getElem?_getD, -List.length_eq_zero_iff, conjP, addOP, two_nat, g])) ?_
  refine sx hXFt [.F] 4000 rfl (by (simp [-List.getD_eq_getElem?_getD, -List.length_eq_zero_iff, conjP, addOP, ewf, g2])) ?_
  (try simp only [two_nat, ewf]; refine ss_end hXFt [0, 1, 2, 3] rfl rfl trivial rfl rfl rfl rfl ?hv ?hh ?hk ?ho; (case hv => exact clF); (case hh => exact clF); (case hk => exact clF); (case ho => exact clF))
end
end Go.Proofs.YtkkddjchkkaagaaGreatDoor
