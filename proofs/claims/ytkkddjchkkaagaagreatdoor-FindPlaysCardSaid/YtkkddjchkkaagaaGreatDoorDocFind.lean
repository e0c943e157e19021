/- Find: the steps of the run of the document that finds. -/
import Derived.Test.YtkkddjchkkaagaaGreatDoorFailsRows
import Derived.Test.YtkkddjchkkaagaaGreatDoorRefArena
import Derived.Test.YtkkddjchkkaagaaGreatDoorControl
namespace Go.Proofs.YtkkddjchkkaagaaGreatDoor
open Go Go.Hx
set_option maxRecDepth 8000
def ctFd : Nat → Option Hx.Spec
  | 42 => some (pureS (placeS entryF))
  | 45 => some (pureS (placeS ctlF))
  | 110 => some (pureS rstartS)
  | 38 => some (pureS rkeyS)
  | 60 => some (pureS runpkS)
  | 117 => some (raLoadS)
  | _ => none
theorem ctFd_ok : ∀ f s args H ob V L, ctFd f = some s → s args H = some (ob, V, L) → AllP ob → Gives Tryz.prog f args H (Is V L) := by
  intro f s args H ob V L h hs ho
  unfold ctFd at h
  split at h
  · simp at h; subst h; exact pureS_ok ⟨_, hTE⟩ (placeS_ok (v := entryF) rentry_fn) hs ho
  · simp at h; subst h; exact pureS_ok ⟨_, hTE⟩ (placeS_ok (v := ctlF) rctl_fn) hs ho
  · simp at h; subst h; exact pureS_ok ⟨_, hTE⟩ (rstartS_ok) hs ho
  · simp at h; subst h; exact pureS_ok ⟨_, hTE⟩ (rkeyS_ok) hs ho
  · simp at h; subst h; exact pureS_ok ⟨_, hTE⟩ (runpkS_ok) hs ho
  · simp at h; subst h; exact raLoadS_ok hs ho
  · simp at h
noncomputable def XFd : Tabs := tabs tr ft xt (fun _ => none) ctFd 20
theorem hXFd : TOk Tryz.prog (XFd) := ⟨hTE, hFT, ctFd_ok, hXT, fun t ks h => by simp [XFd, tabs] at h, mixed⟩
/-- dp: the document's place; de: its code. -/
def dfC (T R : Int) (s : FS) (dp de : Int) : SO := .cells [.int .i64 T, .int .i64 4, .int .i64 1, .int .i64 2, .int .i64 4, .int .i64 1, .int .i64 6, .int .i64 0, .int .i64 R, .int .i64 s.key, .int .i64 (s.ph : Int), .int .i64 (s.i : Int), .int .i64 dp, .int .i64 s.fd, .int .u64 s.seq, .int .i64 s.pl, .int .i64 s.ep, .bool s.lg, .int .i64 de, .int .i64 s.tm] 88
abbrev DFtp (T : Nat) (R : Int) (s : FS) (W : List Int) (st kd wd vl : Int) (ch : Bool) (r : FR) (dp de dp' de' : Int) : Prop :=
  Gives Tryz.prog 48 [.ptr 0 0, .ptr 1 0] [.obj (dfC (T : Int) R s dp de), ROx 2 W st kd wd vl ch, WO W] (Is (.bool (decide (r.s.ph = 0))) [.obj (dfC (T : Int) R r.s dp' de'), ROx 2 W (st + 1) 1 r.wd r.vl false, WO W])
section
variable {T : Nat} {R : Int} {start : Nat} {W : List Int} {st kd wd vl : Int} {ch : Bool} {key seq : Int} {i : Nat} {fd pl ep : Int} {lg : Bool} {er tm dp de : Int}
set_option maxHeartbeats 4000000 in
theorem df1e (B : FB T R W st) (C : FC T R ⟨key, 1, seq, i, fd, pl, ep, lg, er, tm⟩) (_hs : start < T) (_hst : startV (T : Int) 4 1 2 4 1 6 0 R key = (start : Int)) (g : ¬ W.getD 2 0 % 2 = 1) : DFtp T R ⟨key, 1, seq, i, fd, pl, ep, lg, er, tm⟩ W st kd wd vl ch ⟨⟨key, 2, (W.getD 2 0), 0, fd, pl, ep, lg, 0, tm⟩, 2, W.getD 2 0⟩ dp de (-1) de := by
  have t1 := B.t1
  have t8 := B.t8
  have r1 := B.r1
  have r4 := B.r4
  have hl := B.hl
  have s0 := B.s0
  have s1 := B.s1
  have k1 : 1 ≤ key := C.k1
  have k2 : key ≤ 2147483647 := C.k2
  have f0 : 0 ≤ fd := C.f0
  have f1 : fd < R := C.f1
  have hr := right_FR t1 t8 r1 r4
  have l2 : (2 : Int) < (W.length : Int) := by omega
  have w2 := (B.hw 2).1
  have w2' := (B.hw 2).2
  have ewf : IntKind.i64.wrap (fd + 1) = fd + 1 := wi64 (by omega) (by omega)
  have wev : (W.getD 2 0).tmod 2 = W.getD 2 0 % 2 := Int.tmod_eq_emod_of_nonneg w2
  refine gives_x hXFd (fn := Tryz.f48) rfl rfl rfl rfl fun ρ w => ?_
  dsimp only [dfC]
  refine sx hXFd [] 4000 rfl (by (simp [-List.getD_eq_getElem?_getD, -List.length_eq_zero_iff, conjP])) ?_
  refine sx hXFd [.T] 4000 rfl (by (simp [-List.getD_eq_getElem?_getD, -List.length_eq_zero_iff, conjP, s0, l2] <;> (first | omega | ((repeat' (refine And.intro ?_ ?_)) <;> (first | omega | exact decide_eq_false (by omega) | exact decide_eq_true (by omega)))))) ?_
  refine sx hXFd [.F] 4000 rfl (by (simp [-List.getD_eq_getElem?_getD, -List.length_eq_zero_iff, conjP, addOP, wev, two_nat, g])) ?_
  (try simp only [two_nat]; refine ss_end hXFd [0, 1, 2] rfl rfl trivial rfl rfl rfl rfl ?hv ?hh ?hk ?ho; (case hv => exact clF); (case hh => exact clF); (case hk => exact clF); (case ho => exact clF))
set_option maxHeartbeats 4000000 in
theorem df1l (B : FB T R W st) (C : FC T R ⟨key, 1, seq, i, fd, pl, ep, lg, er, tm⟩) (_hs : start < T) (_hst : startV (T : Int) 4 1 2 4 1 6 0 R key = (start : Int)) (g : W.getD 2 0 % 2 = 1) (g2 : fd + 1 = R) : DFtp T R ⟨key, 1, seq, i, fd, pl, ep, lg, er, tm⟩ W st kd wd vl ch ⟨⟨key, 0, (W.getD 2 0), 0, (fd + 1), 0, 0, false, 17, tm⟩, 2, W.getD 2 0⟩ dp de (-1) 17 := by
  have t1 := B.t1
  have t8 := B.t8
  have r1 := B.r1
  have r4 := B.r4
  have hl := B.hl
  have s0 := B.s0
  have s1 := B.s1
  have k1 : 1 ≤ key := C.k1
  have k2 : key ≤ 2147483647 := C.k2
  have f0 : 0 ≤ fd := C.f0
  have f1 : fd < R := C.f1
  have hr := right_FR t1 t8 r1 r4
  have l2 : (2 : Int) < (W.length : Int) := by omega
  have w2 := (B.hw 2).1
  have w2' := (B.hw 2).2
  have ewf : IntKind.i64.wrap (fd + 1) = fd + 1 := wi64 (by omega) (by omega)
  have wev : (W.getD 2 0).tmod 2 = W.getD 2 0 % 2 := Int.tmod_eq_emod_of_nonneg w2
  have ewR : IntKind.i64.wrap (fd + 1) = R := by rw [ewf, g2]
  refine gives_x hXFd (fn := Tryz.f48) rfl rfl rfl rfl fun ρ w => ?_
  dsimp only [dfC]
  refine sx hXFd [] 4000 rfl (by (simp [-List.getD_eq_getElem?_getD, -List.length_eq_zero_iff, conjP])) ?_
  refine sx hXFd [.T] 4000 rfl (by (simp [-List.getD_eq_getElem?_getD, -List.length_eq_zero_iff, conjP, s0, l2] <;> (first | omega | ((repeat' (refine And.intro ?_ ?_)) <;> (first | omega | exact decide_eq_false (by omega) | exact decide_eq_true (by omega)))))) ?_
  refine sx hXFd [.T] 4000 rfl (by (simp [-List.getD_eq_getElem?_getD, -List.length_eq_zero_iff, conjP, addOP, wev, two_nat, g])) ?_
  refine sx hXFd [.T] 4000 rfl (by (simp [-List.getD_eq_getElem?_getD, -List.length_eq_zero_iff, conjP, addOP, ewR])) ?_
  (try simp only [two_nat, ewf]; refine ss_end hXFd [0, 1, 2] rfl rfl trivial rfl rfl rfl rfl ?hv ?hh ?hk ?ho; (case hv => exact clF); (case hh => exact clF); (case hk => exact clF); (case ho => exact clF))
set_option maxHeartbeats 4000000 in
theorem df1f (B : FB T R W st) (C : FC T R ⟨key, 1, seq, i, fd, pl, ep, lg, er, tm⟩) (_hs : start < T) (_hst : startV (T : Int) 4 1 2 4 1 6 0 R key = (start : Int)) (g : W.getD 2 0 % 2 = 1) (g2 : ¬ fd + 1 = R) : DFtp T R ⟨key, 1, seq, i, fd, pl, ep, lg, er, tm⟩ W st kd wd vl ch ⟨⟨key, 1, (W.getD 2 0), 0, (fd + 1), 0, 0, false, 0, tm⟩, 2, W.getD 2 0⟩ dp de (-1) de := by
  have t1 := B.t1
  have t8 := B.t8
  have r1 := B.r1
  have r4 := B.r4
  have hl := B.hl
  have s0 := B.s0
  have s1 := B.s1
  have k1 : 1 ≤ key := C.k1
  have k2 : key ≤ 2147483647 := C.k2
  have f0 : 0 ≤ fd := C.f0
  have f1 : fd < R := C.f1
  have hr := right_FR t1 t8 r1 r4
  have l2 : (2 : Int) < (W.length : Int) := by omega
  have w2 := (B.hw 2).1
  have w2' := (B.hw 2).2
  have ewf : IntKind.i64.wrap (fd + 1) = fd + 1 := wi64 (by omega) (by omega)
  have wev : (W.getD 2 0).tmod 2 = W.getD 2 0 % 2 := Int.tmod_eq_emod_of_nonneg w2
  refine gives_x hXFd (fn := Tryz.f48) rfl rfl rfl rfl fun ρ w => ?_
  dsimp only [dfC]
  refine sx hXFd [] 4000 rfl (by (simp [-List.getD_eq_getElem?_getD, -List.length_eq_zero_iff, conjP])) ?_
  refine sx hXFd [.T] 4000 rfl (by (simp [-List.getD_eq_getElem?_getD, -List.length_eq_zero_iff, conjP, s0, l2] <;> (first | omega | ((repeat' (refine And.intro ?_ ?_)) <;> (first | omega | exact decide_eq_false (by omega) | exact decide_eq_true (by omega)))))) ?_
  refine sx hXFd [.T] 4000 rfl (by (simp [-List.getD_eq_getElem?_getD, -List.length_eq_zero_iff, conjP, addOP, wev, two_nat, g])) ?_
  refine sx hXFd [.F] 4000 rfl (by (simp [-List.getD_eq_getElem?_getD, -List.length_eq_zero_iff, conjP, addOP, ewf, g2])) ?_
  (try simp only [two_nat, ewf]; refine ss_end hXFd [0, 1, 2] rfl rfl trivial rfl rfl rfl rfl ?hv ?hh ?hk ?ho; (case hv => exact clF); (case hh => exact clF); (case hk => exact clF); (case ho => exact clF))
set_option maxHeartbeats 4000000 in
theorem df2f (B : FB T R W st) (C : FC T R ⟨key, 2, seq, i, fd, pl, ep, lg, er, tm⟩) (hs : start < T) (hst : startV (T : Int) 4 1 2 4 1 6 0 R key = (start : Int)) (hK : isK (W.getD (fP (fPl T start i)) 0) = true) (hq : W.getD (fP (fPl T start i)) 0 / 4 = key) : DFtp T R ⟨key, 2, seq, i, fd, pl, ep, lg, er, tm⟩ W st kd wd vl ch ⟨⟨key, 3, seq, (i + 1), fd, (fPl T start i : Int), 0, (lgW (W.getD (fP (fPl T start i)) 0)), er, tm⟩, (fP (fPl T start i) : Int), W.getD (fP (fPl T start i)) 0⟩ dp de (fPl T start i : Int) de := by
  have t1 := B.t1
  have t8 := B.t8
  have r1 := B.r1
  have r4 := B.r4
  have hl := B.hl
  have s0 := B.s0
  have s1 := B.s1
  have k1 : 1 ≤ key := C.k1
  have k2 : key ≤ 2147483647 := C.k2
  have f0 : 0 ≤ fd := C.f0
  have f1 : fd < R := C.f1
  have hr := right_FR t1 t8 r1 r4
  have l2 : (2 : Int) < (W.length : Int) := by omega
  have w2 := (B.hw 2).1
  have w2' := (B.hw 2).2
  have ewf : IntKind.i64.wrap (fd + 1) = fd + 1 := wi64 (by omega) (by omega)
  have hi : i < T := C.it rfl
  have ewi : IntKind.i64.wrap ((i : Int) + 1) = ((i + 1 : Nat) : Int) := by rw [wi64 (by omega) (by omega)]; omega
  have pa := fpl_at hs hi t8
  have tz : ¬ (T : Int) = 0 := by omega
  have hpf : ((fPl T start i : Nat) : Int) < 9223372036854775808 := by have := fPl_lt (start := start) (i := i) t1; omega
  have en := fent_at (R := R) (fPl_lt (start := start) (i := i) t1)
  have el := fP_lt' hl (fPl_lt (start := start) (i := i) t1)
  have w0 := (B.hw (fP (fPl T start i))).1
  have w1 := (B.hw (fP (fPl T start i))).2
  have kyv : kyW (W.getD (fP (fPl T start i)) 0) = W.getD (fP (fPl T start i)) 0 / 4 := by unfold kyW; rw [hK]; rfl
  refine gives_x hXFd (fn := Tryz.f48) rfl rfl rfl rfl fun ρ w => ?_
  dsimp only [dfC]
  refine sx hXFd [] 4000 rfl (by (simp [-List.getD_eq_getElem?_getD, -List.length_eq_zero_iff, conjP])) ?_
  refine sx hXFd [.F] 4000 rfl (by (simp [-List.getD_eq_getElem?_getD, -List.length_eq_zero_iff, conjP, addOP])) ?_
  refine sx hXFd [.T] 4000 rfl (by (simp [-List.getD_eq_getElem?_getD, -List.length_eq_zero_iff, conjP, getH, HE.so, hr, s0, hst, k1, k2, pa, hpf, en, el, w0, w1, Int.toNat_natCast] <;> (first | omega | ((repeat' (refine And.intro ?_ ?_)) <;> (first | omega | exact decide_eq_false (by omega) | exact decide_eq_true (by omega)))))) ?_
  refine sx hXFd [.K, .T] 4000 rfl (by (simp [-List.getD_eq_getElem?_getD, -List.length_eq_zero_iff, conjP, hst, pa, en, Int.toNat_natCast, hK])) ?_
  refine sx hXFd [.T] 4000 rfl (by (simp [-List.getD_eq_getElem?_getD, -List.length_eq_zero_iff, conjP, addOP, hst, pa, en, Int.toNat_natCast, kyv, hq])) ?_
  (try simp only [hst, pa, en, ewi, Int.toNat_natCast]; refine ss_end hXFd [0, 1, 2] rfl rfl trivial rfl rfl rfl rfl ?hv ?hh ?hk ?ho; (case hv => exact clF); (case hh => exact clF); (case hk => exact clF); (case ho => exact clF))
set_option maxHeartbeats 4000000 in
theorem df2z (B : FB T R W st) (C : FC T R ⟨key, 2, seq, i, fd, pl, ep, lg, er, tm⟩) (hs : start < T) (hst : startV (T : Int) 4 1 2 4 1 6 0 R key = (start : Int)) (hz : W.getD (fP (fPl T start i)) 0 = 0) : DFtp T R ⟨key, 2, seq, i, fd, pl, ep, lg, er, tm⟩ W st kd wd vl ch ⟨⟨key, 4, seq, (i + 1), fd, pl, ep, lg, 12, tm⟩, (fP (fPl T start i) : Int), W.getD (fP (fPl T start i)) 0⟩ dp de dp de := by
  have t1 := B.t1
  have t8 := B.t8
  have r1 := B.r1
  have r4 := B.r4
  have hl := B.hl
  have s0 := B.s0
  have s1 := B.s1
  have k1 : 1 ≤ key := C.k1
  have k2 : key ≤ 2147483647 := C.k2
  have f0 : 0 ≤ fd := C.f0
  have f1 : fd < R := C.f1
  have hr := right_FR t1 t8 r1 r4
  have l2 : (2 : Int) < (W.length : Int) := by omega
  have w2 := (B.hw 2).1
  have w2' := (B.hw 2).2
  have ewf : IntKind.i64.wrap (fd + 1) = fd + 1 := wi64 (by omega) (by omega)
  have hi : i < T := C.it rfl
  have ewi : IntKind.i64.wrap ((i : Int) + 1) = ((i + 1 : Nat) : Int) := by rw [wi64 (by omega) (by omega)]; omega
  have pa := fpl_at hs hi t8
  have tz : ¬ (T : Int) = 0 := by omega
  have hpf : ((fPl T start i : Nat) : Int) < 9223372036854775808 := by have := fPl_lt (start := start) (i := i) t1; omega
  have en := fent_at (R := R) (fPl_lt (start := start) (i := i) t1)
  have el := fP_lt' hl (fPl_lt (start := start) (i := i) t1)
  have w0 := (B.hw (fP (fPl T start i))).1
  have w1 := (B.hw (fP (fPl T start i))).2
  have hK : isK (0 : Int) = false := by decide
  have kyv : kyW 0 = 0 := by decide
  refine gives_x hXFd (fn := Tryz.f48) rfl rfl rfl rfl fun ρ w => ?_
  dsimp only [dfC]
  refine sx hXFd [] 4000 rfl (by (simp [-List.getD_eq_getElem?_getD, -List.length_eq_zero_iff, conjP])) ?_
  refine sx hXFd [.F] 4000 rfl (by (simp [-List.getD_eq_getElem?_getD, -List.length_eq_zero_iff, conjP, addOP])) ?_
  refine sx hXFd [.T] 4000 rfl (by (simp [-List.getD_eq_getElem?_getD, -List.length_eq_zero_iff, conjP, getH, HE.so, hr, s0, hst, k1, k2, pa, hpf, en, el, Int.toNat_natCast, hz] <;> (first | omega | ((repeat' (refine And.intro ?_ ?_)) <;> (first | omega | exact decide_eq_false (by omega) | exact decide_eq_true (by omega)))))) ?_
  refine sx hXFd [.K, .F] 4000 rfl (by (simp [-List.getD_eq_getElem?_getD, -List.length_eq_zero_iff, conjP, hst, pa, en, Int.toNat_natCast, hK, hz])) ?_
  refine sx hXFd [.K, .T] 4000 rfl (by (simp [-List.getD_eq_getElem?_getD, -List.length_eq_zero_iff, conjP, hst, pa, en, Int.toNat_natCast, hz])) ?_
  (try simp only [hst, pa, en, ewi, Int.toNat_natCast]; refine ss_end hXFd [0, 1, 2] rfl rfl trivial rfl rfl rfl rfl ?hv ?hh ?hk ?ho; (case hv => exact clF); (case hh => exact clF); (case hk => exact clF); (case ho => exact clF))
set_option maxHeartbeats 4000000 in
theorem df2ta (B : FB T R W st) (C : FC T R ⟨key, 2, seq, i, fd, pl, ep, lg, er, tm⟩) (hs : start < T) (hst : startV (T : Int) 4 1 2 4 1 6 0 R key = (start : Int)) (hK : isK (W.getD (fP (fPl T start i)) 0) = false) (hz : ¬ W.getD (fP (fPl T start i)) 0 = 0) (hi2 : i + 1 = T) : DFtp T R ⟨key, 2, seq, i, fd, pl, ep, lg, er, tm⟩ W st kd wd vl ch ⟨⟨key, 4, seq, (i + 1), fd, pl, ep, lg, 12, tm⟩, (fP (fPl T start i) : Int), W.getD (fP (fPl T start i)) 0⟩ dp de dp de := by
  have t1 := B.t1
  have t8 := B.t8
  have r1 := B.r1
  have r4 := B.r4
  have hl := B.hl
  have s0 := B.s0
  have s1 := B.s1
  have k1 : 1 ≤ key := C.k1
  have k2 : key ≤ 2147483647 := C.k2
  have f0 : 0 ≤ fd := C.f0
  have f1 : fd < R := C.f1
  have hr := right_FR t1 t8 r1 r4
  have l2 : (2 : Int) < (W.length : Int) := by omega
  have w2 := (B.hw 2).1
  have w2' := (B.hw 2).2
  have ewf : IntKind.i64.wrap (fd + 1) = fd + 1 := wi64 (by omega) (by omega)
  have hi : i < T := C.it rfl
  have ewi : IntKind.i64.wrap ((i : Int) + 1) = ((i + 1 : Nat) : Int) := by rw [wi64 (by omega) (by omega)]; omega
  have pa := fpl_at hs hi t8
  have tz : ¬ (T : Int) = 0 := by omega
  have hpf : ((fPl T start i : Nat) : Int) < 9223372036854775808 := by have := fPl_lt (start := start) (i := i) t1; omega
  have en := fent_at (R := R) (fPl_lt (start := start) (i := i) t1)
  have el := fP_lt' hl (fPl_lt (start := start) (i := i) t1)
  have w0 := (B.hw (fP (fPl T start i))).1
  have w1 := (B.hw (fP (fPl T start i))).2
  have kyv : kyW (W.getD (fP (fPl T start i)) 0) = 0 := by unfold kyW; rw [hK]; rfl
  have ewT : IntKind.i64.wrap ((i : Int) + 1) = (T : Int) := by rw [ewi]; omega
  refine gives_x hXFd (fn := Tryz.f48) rfl rfl rfl rfl fun ρ w => ?_
  dsimp only [dfC]
  refine sx hXFd [] 4000 rfl (by (simp [-List.getD_eq_getElem?_getD, -List.length_eq_zero_iff, conjP])) ?_
  refine sx hXFd [.F] 4000 rfl (by (simp [-List.getD_eq_getElem?_getD, -List.length_eq_zero_iff, conjP, addOP])) ?_
  refine sx hXFd [.T] 4000 rfl (by (simp [-List.getD_eq_getElem?_getD, -List.length_eq_zero_iff, conjP, getH, HE.so, hr, s0, hst, k1, k2, pa, hpf, en, el, w0, w1, Int.toNat_natCast] <;> (first | omega | ((repeat' (refine And.intro ?_ ?_)) <;> (first | omega | exact decide_eq_false (by omega) | exact decide_eq_true (by omega)))))) ?_
  refine sx hXFd [.K, .F] 4000 rfl (by (simp [-List.getD_eq_getElem?_getD, -List.length_eq_zero_iff, conjP, hst, pa, en, Int.toNat_natCast, hK])) ?_
  refine sx hXFd [.K, .F] 4000 rfl (by (simp [-List.getD_eq_getElem?_getD, -List.length_eq_zero_iff, conjP, hst, pa, en, Int.toNat_natCast, hz])) ?_
  refine sx hXFd [.T] 4000 rfl (by (simp [-List.getD_eq_getElem?_getD, -List.length_eq_zero_iff, conjP, addOP, ewT])) ?_
  (try simp only [hst, pa, en, ewi, Int.toNat_natCast]; refine ss_end hXFd [0, 1, 2] rfl rfl trivial rfl rfl rfl rfl ?hv ?hh ?hk ?ho; (case hv => exact clF); (case hh => exact clF); (case hk => exact clF); (case ho => exact clF))
set_option maxHeartbeats 4000000 in
theorem df2na (B : FB T R W st) (C : FC T R ⟨key, 2, seq, i, fd, pl, ep, lg, er, tm⟩) (hs : start < T) (hst : startV (T : Int) 4 1 2 4 1 6 0 R key = (start : Int)) (hK : isK (W.getD (fP (fPl T start i)) 0) = false) (hz : ¬ W.getD (fP (fPl T start i)) 0 = 0) (hi2 : ¬ i + 1 = T) : DFtp T R ⟨key, 2, seq, i, fd, pl, ep, lg, er, tm⟩ W st kd wd vl ch ⟨⟨key, 2, seq, (i + 1), fd, pl, ep, lg, er, tm⟩, (fP (fPl T start i) : Int), W.getD (fP (fPl T start i)) 0⟩ dp de dp de := by
  have t1 := B.t1
  have t8 := B.t8
  have r1 := B.r1
  have r4 := B.r4
  have hl := B.hl
  have s0 := B.s0
  have s1 := B.s1
  have k1 : 1 ≤ key := C.k1
  have k2 : key ≤ 2147483647 := C.k2
  have f0 : 0 ≤ fd := C.f0
  have f1 : fd < R := C.f1
  have hr := right_FR t1 t8 r1 r4
  have l2 : (2 : Int) < (W.length : Int) := by omega
  have w2 := (B.hw 2).1
  have w2' := (B.hw 2).2
  have ewf : IntKind.i64.wrap (fd + 1) = fd + 1 := wi64 (by omega) (by omega)
  have hi : i < T := C.it rfl
  have ewi : IntKind.i64.wrap ((i : Int) + 1) = ((i + 1 : Nat) : Int) := by rw [wi64 (by omega) (by omega)]; omega
  have pa := fpl_at hs hi t8
  have tz : ¬ (T : Int) = 0 := by omega
  have hpf : ((fPl T start i : Nat) : Int) < 9223372036854775808 := by have := fPl_lt (start := start) (i := i) t1; omega
  have en := fent_at (R := R) (fPl_lt (start := start) (i := i) t1)
  have el := fP_lt' hl (fPl_lt (start := start) (i := i) t1)
  have w0 := (B.hw (fP (fPl T start i))).1
  have w1 := (B.hw (fP (fPl T start i))).2
  have kyv : kyW (W.getD (fP (fPl T start i)) 0) = 0 := by unfold kyW; rw [hK]; rfl
  have hiT : ¬ ((i + 1 : Nat) : Int) = (T : Int) := by omega
  have hiT2 : ¬ (i : Int) + 1 = (T : Int) := by omega
  refine gives_x hXFd (fn := Tryz.f48) rfl rfl rfl rfl fun ρ w => ?_
  dsimp only [dfC]
  refine sx hXFd [] 4000 rfl (by (simp [-List.getD_eq_getElem?_getD, -List.length_eq_zero_iff, conjP])) ?_
  refine sx hXFd [.F] 4000 rfl (by (simp [-List.getD_eq_getElem?_getD, -List.length_eq_zero_iff, conjP, addOP])) ?_
  refine sx hXFd [.T] 4000 rfl (by (simp [-List.getD_eq_getElem?_getD, -List.length_eq_zero_iff, conjP, getH, HE.so, hr, s0, hst, k1, k2, pa, hpf, en, el, w0, w1, Int.toNat_natCast] <;> (first | omega | ((repeat' (refine And.intro ?_ ?_)) <;> (first | omega | exact decide_eq_false (by omega) | exact decide_eq_true (by omega)))))) ?_
  refine sx hXFd [.K, .F] 4000 rfl (by (simp [-List.getD_eq_getElem?_getD, -List.length_eq_zero_iff, conjP, hst, pa, en, Int.toNat_natCast, hK])) ?_
  refine sx hXFd [.K, .F] 4000 rfl (by (simp [-List.getD_eq_getElem?_getD, -List.length_eq_zero_iff, conjP, hst, pa, en, Int.toNat_natCast, hz])) ?_
  refine sx hXFd [.F] 4000 rfl (by (simp [-List.getD_eq_getElem?_getD, -List.length_eq_zero_iff, conjP, addOP, ewi, hiT2])) ?_
  (try simp only [hst, pa, en, ewi, Int.toNat_natCast]; refine ss_end hXFd [0, 1, 2] rfl rfl trivial rfl rfl rfl rfl ?hv ?hh ?hk ?ho; (case hv => exact clF); (case hh => exact clF); (case hk => exact clF); (case ho => exact clF))
set_option maxHeartbeats 4000000 in
theorem df2tb (B : FB T R W st) (C : FC T R ⟨key, 2, seq, i, fd, pl, ep, lg, er, tm⟩) (hs : start < T) (hst : startV (T : Int) 4 1 2 4 1 6 0 R key = (start : Int)) (hK : isK (W.getD (fP (fPl T start i)) 0) = true) (hq : ¬ W.getD (fP (fPl T start i)) 0 / 4 = key) (hz : ¬ W.getD (fP (fPl T start i)) 0 = 0) (hi2 : i + 1 = T) : DFtp T R ⟨key, 2, seq, i, fd, pl, ep, lg, er, tm⟩ W st kd wd vl ch ⟨⟨key, 4, seq, (i + 1), fd, pl, ep, lg, 12, tm⟩, (fP (fPl T start i) : Int), W.getD (fP (fPl T start i)) 0⟩ dp de dp de := by
  have t1 := B.t1
  have t8 := B.t8
  have r1 := B.r1
  have r4 := B.r4
  have hl := B.hl
  have s0 := B.s0
  have s1 := B.s1
  have k1 : 1 ≤ key := C.k1
  have k2 : key ≤ 2147483647 := C.k2
  have f0 : 0 ≤ fd := C.f0
  have f1 : fd < R := C.f1
  have hr := right_FR t1 t8 r1 r4
  have l2 : (2 : Int) < (W.length : Int) := by omega
  have w2 := (B.hw 2).1
  have w2' := (B.hw 2).2
  have ewf : IntKind.i64.wrap (fd + 1) = fd + 1 := wi64 (by omega) (by omega)
  have hi : i < T := C.it rfl
  have ewi : IntKind.i64.wrap ((i : Int) + 1) = ((i + 1 : Nat) : Int) := by rw [wi64 (by omega) (by omega)]; omega
  have pa := fpl_at hs hi t8
  have tz : ¬ (T : Int) = 0 := by omega
  have hpf : ((fPl T start i : Nat) : Int) < 9223372036854775808 := by have := fPl_lt (start := start) (i := i) t1; omega
  have en := fent_at (R := R) (fPl_lt (start := start) (i := i) t1)
  have el := fP_lt' hl (fPl_lt (start := start) (i := i) t1)
  have w0 := (B.hw (fP (fPl T start i))).1
  have w1 := (B.hw (fP (fPl T start i))).2
  have kyv : kyW (W.getD (fP (fPl T start i)) 0) = W.getD (fP (fPl T start i)) 0 / 4 := by unfold kyW; rw [hK]; rfl
  have ewT : IntKind.i64.wrap ((i : Int) + 1) = (T : Int) := by rw [ewi]; omega
  refine gives_x hXFd (fn := Tryz.f48) rfl rfl rfl rfl fun ρ w => ?_
  dsimp only [dfC]
  refine sx hXFd [] 4000 rfl (by (simp [-List.getD_eq_getElem?_getD, -List.length_eq_zero_iff, conjP])) ?_
  refine sx hXFd [.F] 4000 rfl (by (simp [-List.getD_eq_getElem?_getD, -List.length_eq_zero_iff, conjP, addOP])) ?_
  refine sx hXFd [.T] 4000 rfl (by (simp [-List.getD_eq_getElem?_getD, -List.length_eq_zero_iff, conjP, getH, HE.so, hr, s0, hst, k1, k2, pa, hpf, en, el, w0, w1, Int.toNat_natCast] <;> (first | omega | ((repeat' (refine And.intro ?_ ?_)) <;> (first | omega | exact decide_eq_false (by omega) | exact decide_eq_true (by omega)))))) ?_
  refine sx hXFd [.K, .T] 4000 rfl (by (simp [-List.getD_eq_getElem?_getD, -List.length_eq_zero_iff, conjP, hst, pa, en, Int.toNat_natCast, hK])) ?_
  refine sx hXFd [.F] 4000 rfl (by (simp [-List.getD_eq_getElem?_getD, -List.length_eq_zero_iff, conjP, addOP, hst, pa, en, Int.toNat_natCast, kyv, hq])) ?_
  refine sx hXFd [.K, .F] 4000 rfl (by (simp [-List.getD_eq_getElem?_getD, -List.length_eq_zero_iff, conjP, hst, pa, en, Int.toNat_natCast, hz])) ?_
  refine sx hXFd [.T] 4000 rfl (by (simp [-List.getD_eq_getElem?_getD, -List.length_eq_zero_iff, conjP, addOP, ewT])) ?_
  (try simp only [hst, pa, en, ewi, Int.toNat_natCast]; refine ss_end hXFd [0, 1, 2] rfl rfl trivial rfl rfl rfl rfl ?hv ?hh ?hk ?ho; (case hv => exact clF); (case hh => exact clF); (case hk => exact clF); (case ho => exact clF))
set_option maxHeartbeats 4000000 in
theorem df2nb (B : FB T R W st) (C : FC T R ⟨key, 2, seq, i, fd, pl, ep, lg, er, tm⟩) (hs : start < T) (hst : startV (T : Int) 4 1 2 4 1 6 0 R key = (start : Int)) (hK : isK (W.getD (fP (fPl T start i)) 0) = true) (hq : ¬ W.getD (fP (fPl T start i)) 0 / 4 = key) (hz : ¬ W.getD (fP (fPl T start i)) 0 = 0) (hi2 : ¬ i + 1 = T) : DFtp T R ⟨key, 2, seq, i, fd, pl, ep, lg, er, tm⟩ W st kd wd vl ch ⟨⟨key, 2, seq, (i + 1), fd, pl, ep, lg, er, tm⟩, (fP (fPl T start i) : Int), W.getD (fP (fPl T start i)) 0⟩ dp de dp de := by
  have t1 := B.t1
  have t8 := B.t8
  have r1 := B.r1
  have r4 := B.r4
  have hl := B.hl
  have s0 := B.s0
  have s1 := B.s1
  have k1 : 1 ≤ key := C.k1
  have k2 : key ≤ 2147483647 := C.k2
  have f0 : 0 ≤ fd := C.f0
  have f1 : fd < R := C.f1
  have hr := right_FR t1 t8 r1 r4
  have l2 : (2 : Int) < (W.length : Int) := by omega
  have w2 := (B.hw 2).1
  have w2' := (B.hw 2).2
  have ewf : IntKind.i64.wrap (fd + 1) = fd + 1 := wi64 (by omega) (by omega)
  have hi : i < T := C.it rfl
  have ewi : IntKind.i64.wrap ((i : Int) + 1) = ((i + 1 : Nat) : Int) := by rw [wi64 (by omega) (by omega)]; omega
  have pa := fpl_at hs hi t8
  have tz : ¬ (T : Int) = 0 := by omega
  have hpf : ((fPl T start i : Nat) : Int) < 9223372036854775808 := by have := fPl_lt (start := start) (i := i) t1; omega
  have en := fent_at (R := R) (fPl_lt (start := start) (i := i) t1)
  have el := fP_lt' hl (fPl_lt (start := start) (i := i) t1)
  have w0 := (B.hw (fP (fPl T start i))).1
  have w1 := (B.hw (fP (fPl T start i))).2
  have kyv : kyW (W.getD (fP (fPl T start i)) 0) = W.getD (fP (fPl T start i)) 0 / 4 := by unfold kyW; rw [hK]; rfl
  have hiT : ¬ ((i + 1 : Nat) : Int) = (T : Int) := by omega
  have hiT2 : ¬ (i : Int) + 1 = (T : Int) := by omega
  refine gives_x hXFd (fn := Tryz.f48) rfl rfl rfl rfl fun ρ w => ?_
  dsimp only [dfC]
  refine sx hXFd [] 4000 rfl (by (simp [-List.getD_eq_getElem?_getD, -List.length_eq_zero_iff, conjP])) ?_
  refine sx hXFd [.F] 4000 rfl (by (simp [-List.getD_eq_getElem?_getD, -List.length_eq_zero_iff, conjP, addOP])) ?_
  refine sx hXFd [.T] 4000 rfl (by (simp [-List.getD_eq_getElem?_getD, -List.length_eq_zero_iff, conjP, getH, HE.so, hr, s0, hst, k1, k2, pa, hpf, en, el, w0, w1, Int.toNat_natCast] <;> (first | omega | ((repeat' (refine And.intro ?_ ?_)) <;> (first | omega | exact decide_eq_false (by omega) | exact decide_eq_true (by omega)))))) ?_
  refine sx hXFd [.K, .T] 4000 rfl (by (simp [-List.getD_eq_getElem?_getD, -List.length_eq_zero_iff, conjP, hst, pa, en, Int.toNat_natCast, hK])) ?_
  refine sx hXFd [.F] 4000 rfl (by (simp [-List.getD_eq_getElem?_getD, -List.length_eq_zero_iff, conjP, addOP, hst, pa, en, Int.toNat_natCast, kyv, hq])) ?_
  refine sx hXFd [.K, .F] 4000 rfl (by (simp [-List.getD_eq_getElem?_getD, -List.length_eq_zero_iff, conjP, hst, pa, en, Int.toNat_natCast, hz])) ?_
  refine sx hXFd [.F] 4000 rfl (by (simp [-List.getD_eq_getElem?_getD, -List.length_eq_zero_iff, conjP, addOP, ewi, hiT2])) ?_
  (try simp only [hst, pa, en, ewi, Int.toNat_natCast]; refine ss_end hXFd [0, 1, 2] rfl rfl trivial rfl rfl rfl rfl ?hv ?hh ?hk ?ho; (case hv => exact clF); (case hh => exact clF); (case hk => exact clF); (case ho => exact clF))
set_option maxHeartbeats 4000000 in
theorem df3 (B : FB T R W st) (C : FC T R ⟨key, 3, seq, i, fd, pl, ep, lg, er, tm⟩) (_hs : start < T) (_hst : startV (T : Int) 4 1 2 4 1 6 0 R key = (start : Int))  : DFtp T R ⟨key, 3, seq, i, fd, pl, ep, lg, er, tm⟩ W st kd wd vl ch ⟨⟨key, 4, seq, i, fd, pl, (epW (W.getD (gP T pl.toNat) 0)), lg, er, tm⟩, (gP T pl.toNat : Int), W.getD (gP T pl.toNat) 0⟩ pl de pl de := by
  have t1 := B.t1
  have t8 := B.t8
  have r1 := B.r1
  have r4 := B.r4
  have hl := B.hl
  have s0 := B.s0
  have s1 := B.s1
  have k1 : 1 ≤ key := C.k1
  have k2 : key ≤ 2147483647 := C.k2
  have f0 : 0 ≤ fd := C.f0
  have f1 : fd < R := C.f1
  have hr := right_FR t1 t8 r1 r4
  have l2 : (2 : Int) < (W.length : Int) := by omega
  have w2 := (B.hw 2).1
  have w2' := (B.hw 2).2
  have ewf : IntKind.i64.wrap (fd + 1) = fd + 1 := wi64 (by omega) (by omega)
  obtain ⟨p, hp, hpl⟩ := C.pe rfl
  have hpl : pl = (p : Int) := hpl
  subst hpl
  have cn := fctl_at (R := R) hp
  have cl_ := gP_lt' hl hp
  have c0 := (B.hw (gP T p)).1
  have c1 := (B.hw (gP T p)).2
  refine gives_x hXFd (fn := Tryz.f48) rfl rfl rfl rfl fun ρ w => ?_
  dsimp only [dfC]
  refine sx hXFd [] 4000 rfl (by (simp [-List.getD_eq_getElem?_getD, -List.length_eq_zero_iff, conjP])) ?_
  refine sx hXFd [.F] 4000 rfl (by (simp [-List.getD_eq_getElem?_getD, -List.length_eq_zero_iff, conjP, addOP])) ?_
  refine sx hXFd [.F] 4000 rfl (by (simp [-List.getD_eq_getElem?_getD, -List.length_eq_zero_iff, conjP, addOP])) ?_
  refine sx hXFd [.T] 4000 rfl (by (simp [-List.getD_eq_getElem?_getD, -List.length_eq_zero_iff, conjP, hr, s0, cn, cl_, c0, c1, Int.toNat_natCast] <;> (first | omega | ((repeat' (refine And.intro ?_ ?_)) <;> (first | omega | exact decide_eq_false (by omega) | exact decide_eq_true (by omega)))))) ?_
  (try simp only [cn, Int.toNat_natCast]; refine ss_end hXFd [0, 1, 2] rfl rfl trivial rfl rfl rfl rfl ?hv ?hh ?hk ?ho; (case hv => exact clF); (case hh => exact clF); (case hk => exact clF); (case ho => exact clF))
set_option maxHeartbeats 4000000 in
theorem df4s (B : FB T R W st) (C : FC T R ⟨key, 4, seq, i, fd, pl, ep, lg, er, tm⟩) (_hs : start < T) (_hst : startV (T : Int) 4 1 2 4 1 6 0 R key = (start : Int)) (g : W.getD 2 0 = seq) (hd : ¬ dp < 0) : DFtp T R ⟨key, 4, seq, i, fd, pl, ep, lg, er, tm⟩ W st kd wd vl ch ⟨⟨key, 0, seq, i, fd, pl, ep, lg, er, (st + 1)⟩, 2, W.getD 2 0⟩ dp de dp de := by
  have t1 := B.t1
  have t8 := B.t8
  have r1 := B.r1
  have r4 := B.r4
  have hl := B.hl
  have s0 := B.s0
  have s1 := B.s1
  have k1 : 1 ≤ key := C.k1
  have k2 : key ≤ 2147483647 := C.k2
  have f0 : 0 ≤ fd := C.f0
  have f1 : fd < R := C.f1
  have hr := right_FR t1 t8 r1 r4
  have l2 : (2 : Int) < (W.length : Int) := by omega
  have w2 := (B.hw 2).1
  have w2' := (B.hw 2).2
  have ewf : IntKind.i64.wrap (fd + 1) = fd + 1 := wi64 (by omega) (by omega)
  have ews : IntKind.i64.wrap (st + 1) = st + 1 := wi64 (by omega) (by omega)
  refine gives_x hXFd (fn := Tryz.f48) rfl rfl rfl rfl fun ρ w => ?_
  dsimp only [dfC]
  refine sx hXFd [] 4000 rfl (by (simp [-List.getD_eq_getElem?_getD, -List.length_eq_zero_iff, conjP])) ?_
  refine sx hXFd [.F] 4000 rfl (by (simp [-List.getD_eq_getElem?_getD, -List.length_eq_zero_iff, conjP, addOP])) ?_
  refine sx hXFd [.F] 4000 rfl (by (simp [-List.getD_eq_getElem?_getD, -List.length_eq_zero_iff, conjP, addOP])) ?_
  refine sx hXFd [.F] 4000 rfl (by (simp [-List.getD_eq_getElem?_getD, -List.length_eq_zero_iff, conjP, addOP])) ?_
  refine sx hXFd [.T] 4000 rfl (by (simp [-List.getD_eq_getElem?_getD, -List.length_eq_zero_iff, conjP, s0, l2] <;> (first | omega | ((repeat' (refine And.intro ?_ ?_)) <;> (first | omega | exact decide_eq_false (by omega) | exact decide_eq_true (by omega)))))) ?_
  refine sx hXFd [.F] 4000 rfl (by (simp [-List.getD_eq_getElem?_getD, -List.length_eq_zero_iff, conjP, addOP, two_nat, g])) ?_
  refine sx hXFd [.F] 4000 rfl (by (simp [-List.getD_eq_getElem?_getD, -List.length_eq_zero_iff, conjP, addOP, hd])) ?_
  (try simp only [two_nat, g]; refine ss_end hXFd [0, 1, 2] rfl rfl trivial rfl rfl rfl rfl ?hv ?hh ?hk ?ho; (case hv => exact clF); (case hh => exact clF); (case hk => exact clF); (case ho => exact clF))
set_option maxHeartbeats 4000000 in
theorem df4m (B : FB T R W st) (C : FC T R ⟨key, 4, seq, i, fd, pl, ep, lg, er, tm⟩) (_hs : start < T) (_hst : startV (T : Int) 4 1 2 4 1 6 0 R key = (start : Int)) (g : W.getD 2 0 = seq) (hd : dp < 0) : DFtp T R ⟨key, 4, seq, i, fd, pl, ep, lg, er, tm⟩ W st kd wd vl ch ⟨⟨key, 0, seq, i, fd, pl, ep, lg, er, (st + 1)⟩, 2, W.getD 2 0⟩ dp de dp 12 := by
  have t1 := B.t1
  have t8 := B.t8
  have r1 := B.r1
  have r4 := B.r4
  have hl := B.hl
  have s0 := B.s0
  have s1 := B.s1
  have k1 : 1 ≤ key := C.k1
  have k2 : key ≤ 2147483647 := C.k2
  have f0 : 0 ≤ fd := C.f0
  have f1 : fd < R := C.f1
  have hr := right_FR t1 t8 r1 r4
  have l2 : (2 : Int) < (W.length : Int) := by omega
  have w2 := (B.hw 2).1
  have w2' := (B.hw 2).2
  have ewf : IntKind.i64.wrap (fd + 1) = fd + 1 := wi64 (by omega) (by omega)
  have ews : IntKind.i64.wrap (st + 1) = st + 1 := wi64 (by omega) (by omega)
  refine gives_x hXFd (fn := Tryz.f48) rfl rfl rfl rfl fun ρ w => ?_
  dsimp only [dfC]
  refine sx hXFd [] 4000 rfl (by (simp [-List.getD_eq_getElem?_getD, -List.length_eq_zero_iff, conjP])) ?_
  refine sx hXFd [.F] 4000 rfl (by (simp [-List.getD_eq_getElem?_getD, -List.length_eq_zero_iff, conjP, addOP])) ?_
  refine sx hXFd [.F] 4000 rfl (by (simp [-List.getD_eq_getElem?_getD, -List.length_eq_zero_iff, conjP, addOP])) ?_
  refine sx hXFd [.F] 4000 rfl (by (simp [-List.getD_eq_getElem?_getD, -List.length_eq_zero_iff, conjP, addOP])) ?_
  refine sx hXFd [.T] 4000 rfl (by (simp [-List.getD_eq_getElem?_getD, -List.length_eq_zero_iff, conjP, s0, l2] <;> (first | omega | ((repeat' (refine And.intro ?_ ?_)) <;> (first | omega | exact decide_eq_false (by omega) | exact decide_eq_true (by omega)))))) ?_
  refine sx hXFd [.F] 4000 rfl (by (simp [-List.getD_eq_getElem?_getD, -List.length_eq_zero_iff, conjP, addOP, two_nat, g])) ?_
  refine sx hXFd [.T] 4000 rfl (by (simp [-List.getD_eq_getElem?_getD, -List.length_eq_zero_iff, conjP, addOP, hd])) ?_
  (try simp only [two_nat, g]; refine ss_end hXFd [0, 1, 2] rfl rfl trivial rfl rfl rfl rfl ?hv ?hh ?hk ?ho; (case hv => exact clF); (case hh => exact clF); (case hk => exact clF); (case ho => exact clF))
set_option maxHeartbeats 4000000 in
theorem df4l (B : FB T R W st) (C : FC T R ⟨key, 4, seq, i, fd, pl, ep, lg, er, tm⟩) (_hs : start < T) (_hst : startV (T : Int) 4 1 2 4 1 6 0 R key = (start : Int)) (g : ¬ W.getD 2 0 = seq) (g2 : fd + 1 = R) : DFtp T R ⟨key, 4, seq, i, fd, pl, ep, lg, er, tm⟩ W st kd wd vl ch ⟨⟨key, 0, seq, i, (fd + 1), 0, 0, false, 17, (st + 1)⟩, 2, W.getD 2 0⟩ dp de dp 17 := by
  have t1 := B.t1
  have t8 := B.t8
  have r1 := B.r1
  have r4 := B.r4
  have hl := B.hl
  have s0 := B.s0
  have s1 := B.s1
  have k1 : 1 ≤ key := C.k1
  have k2 : key ≤ 2147483647 := C.k2
  have f0 : 0 ≤ fd := C.f0
  have f1 : fd < R := C.f1
  have hr := right_FR t1 t8 r1 r4
  have l2 : (2 : Int) < (W.length : Int) := by omega
  have w2 := (B.hw 2).1
  have w2' := (B.hw 2).2
  have ewf : IntKind.i64.wrap (fd + 1) = fd + 1 := wi64 (by omega) (by omega)
  have ews : IntKind.i64.wrap (st + 1) = st + 1 := wi64 (by omega) (by omega)
  have ewR : IntKind.i64.wrap (fd + 1) = R := by rw [ewf, g2]
  refine gives_x hXFd (fn := Tryz.f48) rfl rfl rfl rfl fun ρ w => ?_
  dsimp only [dfC]
  refine sx hXFd [] 4000 rfl (by (simp [-List.getD_eq_getElem?_getD, -List.length_eq_zero_iff, conjP])) ?_
  refine sx hXFd [.F] 4000 rfl (by (simp [-List.getD_eq_getElem?_getD, -List.length_eq_zero_iff, conjP, addOP])) ?_
  refine sx hXFd [.F] 4000 rfl (by (simp [-List.getD_eq_getElem?_getD, -List.length_eq_zero_iff, conjP, addOP])) ?_
  refine sx hXFd [.F] 4000 rfl (by (simp [-List.getD_eq_getElem?_getD, -List.length_eq_zero_iff, conjP, addOP])) ?_
  refine sx hXFd [.T] 4000 rfl (by (simp [-List.getD_eq_getElem?_getD, -List.length_eq_zero_iff, conjP, s0, l2] <;> (first | omega | ((repeat' (refine And.intro ?_ ?_)) <;> (first | omega | exact decide_eq_false (by omega) | exact decide_eq_true (by omega)))))) ?_
  refine sx hXFd [.T] 4000 rfl (by (simp [-List.getD_eq_getElem?_getD, -List.length_eq_zero_iff, conjP, addOP, two_nat, g])) ?_
  refine sx hXFd [.T] 4000 rfl (by (simp [-List.getD_eq_getElem?_getD, -List.length_eq_zero_iff, conjP, addOP, ewR])) ?_
  (try simp only [two_nat, ewf]; refine ss_end hXFd [0, 1, 2] rfl rfl trivial rfl rfl rfl rfl ?hv ?hh ?hk ?ho; (case hv => exact clF); (case hh => exact clF); (case hk => exact clF); (case ho => exact clF))
set_option maxHeartbeats 4000000 in
theorem df4f (B : FB T R W st) (C : FC T R ⟨key, 4, seq, i, fd, pl, ep, lg, er, tm⟩) (_hs : start < T) (_hst : startV (T : Int) 4 1 2 4 1 6 0 R key = (start : Int)) (g : ¬ W.getD 2 0 = seq) (g2 : ¬ fd + 1 = R) : DFtp T R ⟨key, 4, seq, i, fd, pl, ep, lg, er, tm⟩ W st kd wd vl ch ⟨⟨key, 1, seq, i, (fd + 1), 0, 0, false, 0, (st + 1)⟩, 2, W.getD 2 0⟩ dp de dp de := by
  have t1 := B.t1
  have t8 := B.t8
  have r1 := B.r1
  have r4 := B.r4
  have hl := B.hl
  have s0 := B.s0
  have s1 := B.s1
  have k1 : 1 ≤ key := C.k1
  have k2 : key ≤ 2147483647 := C.k2
  have f0 : 0 ≤ fd := C.f0
  have f1 : fd < R := C.f1
  have hr := right_FR t1 t8 r1 r4
  have l2 : (2 : Int) < (W.length : Int) := by omega
  have w2 := (B.hw 2).1
  have w2' := (B.hw 2).2
  have ewf : IntKind.i64.wrap (fd + 1) = fd + 1 := wi64 (by omega) (by omega)
  have ews : IntKind.i64.wrap (st + 1) = st + 1 := wi64 (by omega) (by omega)
  refine gives_x hXFd (fn := Tryz.f48) rfl rfl rfl rfl fun ρ w => ?_
  dsimp only [dfC]
  refine sx hXFd [] 4000 rfl (by (simp [-List.getD_eq_getElem?_getD, -List.length_eq_zero_iff, conjP])) ?_
  refine sx hXFd [.F] 4000 rfl (by (simp [-List.getD_eq_getElem?_getD, -List.length_eq_zero_iff, conjP, addOP])) ?_
  refine sx hXFd [.F] 4000 rfl (by (simp [-List.getD_eq_getElem?_getD, -List.length_eq_zero_iff, conjP, addOP])) ?_
  refine sx hXFd [.F] 4000 rfl (by (simp [-List.getD_eq_getElem?_getD, -List.length_eq_zero_iff, conjP, addOP])) ?_
  refine sx hXFd [.T] 4000 rfl (by (simp [-List.getD_eq_getElem?_getD, -List.length_eq_zero_iff, conjP, s0, l2] <;> (first | omega | ((repeat' (refine And.intro ?_ ?_)) <;> (first | omega | exact decide_eq_false (by omega) | exact decide_eq_true (by omega)))))) ?_
  refine sx hXFd [.T] 4000 rfl (by (simp [-List.getD_eq_getElem?_getD, -List.length_eq_zero_iff, conjP, addOP, two_nat, g])) ?_
  refine sx hXFd [.F] 4000 rfl (by (simp [-List.getD_eq_getElem?_getD, -List.length_eq_zero_iff, conjP, addOP, ewf, g2])) ?_
  (try simp only [two_nat, ewf]; refine ss_end hXFd [0, 1, 2] rfl rfl trivial rfl rfl rfl rfl ?hv ?hh ?hk ?ho; (case hv => exact clF); (case hh => exact clF); (case hk => exact clF); (case ho => exact clF))
end
end Go.Proofs.YtkkddjchkkaagaaGreatDoor
