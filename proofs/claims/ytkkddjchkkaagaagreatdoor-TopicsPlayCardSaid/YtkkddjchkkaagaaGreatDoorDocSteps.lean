/- The steps of the document's runs that create and remove topics, told by the law's function. -/
import Derived.Test.YtkkddjchkkaagaaGreatDoorStepRows
import Derived.Test.YtkkddjchkkaagaaGreatDoorRefArena
namespace Go.Proofs.YtkkddjchkkaagaaGreatDoor
open Go Go.Hx
set_option maxRecDepth 8000
def ctTd : Nat → Option Hx.Spec
  | 42 => some (pureS (placeS entryF))
  | 45 => some (pureS (placeS ctlF))
  | 110 => some (pureS rstartS)
  | 38 => some (pureS rkeyS)
  | 102 => some (pureS rentS)
  | 60 => some (pureS runpkS)
  | 166 => some (pureS rbornS)
  | 167 => some (pureS rgoneS)
  | 117 => some (raLoadS)
  | 41 => some (raStoreS)
  | 163 => some (raSwapS)
  | _ => none
theorem ctTd_ok : ∀ f s args H ob V L, ctTd f = some s → s args H = some (ob, V, L) → AllP ob → Gives Tryz.prog f args H (Is V L) := by
  intro f s args H ob V L h hs ho
  unfold ctTd at h
  split at h
  · simp at h; subst h; exact pureS_ok ⟨_, hTE⟩ (placeS_ok (v := entryF) rentry_fn) hs ho
  · simp at h; subst h; exact pureS_ok ⟨_, hTE⟩ (placeS_ok (v := ctlF) rctl_fn) hs ho
  · simp at h; subst h; exact pureS_ok ⟨_, hTE⟩ (rstartS_ok) hs ho
  · simp at h; subst h; exact pureS_ok ⟨_, hTE⟩ (rkeyS_ok) hs ho
  · simp at h; subst h; exact pureS_ok ⟨_, hTE⟩ (rentS_ok) hs ho
  · simp at h; subst h; exact pureS_ok ⟨_, hTE⟩ (runpkS_ok) hs ho
  · simp at h; subst h; exact pureS_ok ⟨_, hTE⟩ (rbornS_ok) hs ho
  · simp at h; subst h; exact pureS_ok ⟨_, hTE⟩ (rgoneS_ok) hs ho
  · simp at h; subst h; exact raLoadS_ok hs ho
  · simp at h; subst h; exact raStoreS_ok hs ho
  · simp at h; subst h; exact raSwapS_ok hs ho
  · simp at h
noncomputable def XTd : Tabs := tabs tr ft xt (fun _ => none) ctTd 20
theorem hXTd : TOk Tryz.prog (XTd) := ⟨hTE, hFT, ctTd_ok, hXT, fun t ks h => by simp [XTd, tabs] at h, mixed⟩
abbrev Dtp (T : Nat) (R : Int) (_start : Nat) (s : TS) (W : List Int) (st kd wd vl : Int) (ch : Bool) (r : TR) (dp dp' : Int) : Prop :=
  Gives Tryz.prog 131 [.ptr 0 0, .ptr 1 0] [.obj (drC (T : Int) R s dp), ROx 2 W st kd wd vl ch, WO W] (Is (.bool (decide (r.s.ph = 0))) [.obj (drC (T : Int) R r.s dp'), ROx 2 r.W (st + 1) r.kd r.wd r.vl r.ch, WO r.W])
section
variable {T : Nat} {R : Int} {start : Nat} {W : List Int} {st kd wd vl : Int} {ch : Bool}
variable {lg : Bool} {dq : Int} {key seq : Int} {i : Nat} {fd : Int} {hd : Bool} {tm pl sn fl bk ep tp : Int} {tl : Bool}
theorem clD {P : Prop} (h : P := by repeat' (first | exact rfl | exact trivial | exact sim_refl _ | refine And.intro ?_ ?_)) : P := h

set_option maxHeartbeats 4000000 in
theorem d1ce (P : TPre T R start ⟨false, lg, key, 1, seq, i, fd, hd, tm, 0, pl, sn, fl, bk, ep, tp, tl⟩ W st) (g : ¬ W.getD 2 0 % 2 = 1) : Dtp T R start ⟨false, lg, key, 1, seq, i, fd, hd, tm, 0, pl, sn, fl, bk, ep, tp, tl⟩ W st kd wd vl ch ⟨⟨false, lg, key, 2, (W.getD 2 0), i, fd, hd, tm, 0, pl, sn, fl, bk, ep, tp, tl⟩, W, 1, 2, W.getD 2 0, false⟩ 0 0 := by
  have t1 := P.t1
  have t4 := P.t4
  have r1 := P.r1
  have r8 := P.r8
  have hst : startV (T : Int) 4 1 4 4 1 6 0 R key = (start : Int) := P.hst
  have hl := P.hl
  have s0 := P.s0
  have s1 := P.s1
  have k1 : 1 ≤ key := P.k1
  have k6 : key ≤ 6 := P.k6
  have k9 : key ≤ 2147483647 := by omega
  have q0 : 0 ≤ seq := P.q0
  have q1 : seq < 1000000000 := P.q1
  have f0 : 0 ≤ fd := P.f0
  have f1 : fd < R := P.f1
  have g0 : 0 ≤ fl := P.g0
  have n0 : 0 ≤ sn := P.n0
  have n1 : sn < 18446744073709551616 := P.n1
  have hr := right_TR t1 t4 r1 r8
  have l2 : (2 : Int) < (W.length : Int) := by omega
  have w2 := (P.hw 2).1
  have w2' := (P.hw 2).2
  have ew1 : IntKind.u64.wrap (seq + 1) = seq + 1 := wu64 (by omega) (by omega)
  have ew2 : IntKind.u64.wrap (seq + 2) = seq + 2 := wu64 (by omega) (by omega)
  have ewf : IntKind.i64.wrap (fd + 1) = fd + 1 := wi64 (by omega) (by omega)
  have hX := hXTd
  have wev : (W.getD 2 0).tmod 2 = W.getD 2 0 % 2 := Int.tmod_eq_emod_of_nonneg w2
  refine gives_x hX (fn := Tryz.f131) rfl rfl rfl rfl fun ρ w => ?_
  dsimp only [drC]
  refine sx hX [] 4000 rfl (by (simp [-List.getD_eq_getElem?_getD, -List.length_eq_zero_iff, conjP])) ?_
  refine sx hX [.F] 4000 rfl (by (simp [-List.getD_eq_getElem?_getD, -List.length_eq_zero_iff, conjP, addOP])) ?_
  refine sx hX [.T] 4000 rfl (by (simp [-List.getD_eq_getElem?_getD, -List.length_eq_zero_iff, conjP, s0, l2] <;> (first | omega | ((repeat' (refine And.intro ?_ ?_)) <;> (first | omega | exact decide_eq_false (by omega) | exact decide_eq_true (by omega)))))) ?_
  refine sx hX [.F] 4000 rfl (by (simp [-List.getD_eq_getElem?_getD, -List.length_eq_zero_iff, conjP, addOP, wev, two_nat, g])) ?_
  (try simp only [two_nat]; refine ss_end hX [0, 1, 2] rfl rfl trivial rfl rfl rfl rfl ?hv ?hh ?hk ?ho; (case hv => exact clD); (case hh => exact clD); (case hk => exact clD); (case ho => exact clD))
set_option maxHeartbeats 4000000 in
theorem d1cl (P : TPre T R start ⟨false, lg, key, 1, seq, i, fd, hd, tm, 0, pl, sn, fl, bk, ep, tp, tl⟩ W st) (g : W.getD 2 0 % 2 = 1) (g2 : fd + 1 = R) : Dtp T R start ⟨false, lg, key, 1, seq, i, fd, hd, tm, 0, pl, sn, fl, bk, ep, tp, tl⟩ W st kd wd vl ch ⟨⟨false, lg, key, 0, (W.getD 2 0), i, (fd + 1), hd, tm, 17, pl, sn, fl, bk, ep, tp, tl⟩, W, 1, 2, W.getD 2 0, false⟩ 0 0 := by
  have t1 := P.t1
  have t4 := P.t4
  have r1 := P.r1
  have r8 := P.r8
  have hst : startV (T : Int) 4 1 4 4 1 6 0 R key = (start : Int) := P.hst
  have hl := P.hl
  have s0 := P.s0
  have s1 := P.s1
  have k1 : 1 ≤ key := P.k1
  have k6 : key ≤ 6 := P.k6
  have k9 : key ≤ 2147483647 := by omega
  have q0 : 0 ≤ seq := P.q0
  have q1 : seq < 1000000000 := P.q1
  have f0 : 0 ≤ fd := P.f0
  have f1 : fd < R := P.f1
  have g0 : 0 ≤ fl := P.g0
  have n0 : 0 ≤ sn := P.n0
  have n1 : sn < 18446744073709551616 := P.n1
  have hr := right_TR t1 t4 r1 r8
  have l2 : (2 : Int) < (W.length : Int) := by omega
  have w2 := (P.hw 2).1
  have w2' := (P.hw 2).2
  have ew1 : IntKind.u64.wrap (seq + 1) = seq + 1 := wu64 (by omega) (by omega)
  have ew2 : IntKind.u64.wrap (seq + 2) = seq + 2 := wu64 (by omega) (by omega)
  have ewf : IntKind.i64.wrap (fd + 1) = fd + 1 := wi64 (by omega) (by omega)
  have hX := hXTd
  have wev : (W.getD 2 0).tmod 2 = W.getD 2 0 % 2 := Int.tmod_eq_emod_of_nonneg w2
  have ewR : IntKind.i64.wrap (fd + 1) = R := by rw [ewf, g2]
  refine gives_x hX (fn := Tryz.f131) rfl rfl rfl rfl fun ρ w => ?_
  dsimp only [drC]
  refine sx hX [] 4000 rfl (by (simp [-List.getD_eq_getElem?_getD, -List.length_eq_zero_iff, conjP])) ?_
  refine sx hX [.F] 4000 rfl (by (simp [-List.getD_eq_getElem?_getD, -List.length_eq_zero_iff, conjP, addOP])) ?_
  refine sx hX [.T] 4000 rfl (by (simp [-List.getD_eq_getElem?_getD, -List.length_eq_zero_iff, conjP, s0, l2] <;> (first | omega | ((repeat' (refine And.intro ?_ ?_)) <;> (first | omega | exact decide_eq_false (by omega) | exact decide_eq_true (by omega)))))) ?_
  refine sx hX [.T] 4000 rfl (by (simp [-List.getD_eq_getElem?_getD, -List.length_eq_zero_iff, conjP, addOP, wev, two_nat, g])) ?_
  refine sx hX [.T] 4000 rfl (by (simp [-List.getD_eq_getElem?_getD, -List.length_eq_zero_iff, conjP, addOP, ewR])) ?_
  (try simp only [two_nat, ewf]; refine ss_end hX [0, 1, 2] rfl rfl trivial rfl rfl rfl rfl ?hv ?hh ?hk ?ho; (case hv => exact clD); (case hh => exact clD); (case hk => exact clD); (case ho => exact clD))
set_option maxHeartbeats 4000000 in
theorem d1cf (P : TPre T R start ⟨false, lg, key, 1, seq, i, fd, hd, tm, 0, pl, sn, fl, bk, ep, tp, tl⟩ W st) (g : W.getD 2 0 % 2 = 1) (g2 : ¬ fd + 1 = R) : Dtp T R start ⟨false, lg, key, 1, seq, i, fd, hd, tm, 0, pl, sn, fl, bk, ep, tp, tl⟩ W st kd wd vl ch ⟨⟨false, lg, key, 1, (W.getD 2 0), i, (fd + 1), hd, tm, 0, pl, sn, fl, bk, ep, tp, tl⟩, W, 1, 2, W.getD 2 0, false⟩ 0 0 := by
  have t1 := P.t1
  have t4 := P.t4
  have r1 := P.r1
  have r8 := P.r8
  have hst : startV (T : Int) 4 1 4 4 1 6 0 R key = (start : Int) := P.hst
  have hl := P.hl
  have s0 := P.s0
  have s1 := P.s1
  have k1 : 1 ≤ key := P.k1
  have k6 : key ≤ 6 := P.k6
  have k9 : key ≤ 2147483647 := by omega
  have q0 : 0 ≤ seq := P.q0
  have q1 : seq < 1000000000 := P.q1
  have f0 : 0 ≤ fd := P.f0
  have f1 : fd < R := P.f1
  have g0 : 0 ≤ fl := P.g0
  have n0 : 0 ≤ sn := P.n0
  have n1 : sn < 18446744073709551616 := P.n1
  have hr := right_TR t1 t4 r1 r8
  have l2 : (2 : Int) < (W.length : Int) := by omega
  have w2 := (P.hw 2).1
  have w2' := (P.hw 2).2
  have ew1 : IntKind.u64.wrap (seq + 1) = seq + 1 := wu64 (by omega) (by omega)
  have ew2 : IntKind.u64.wrap (seq + 2) = seq + 2 := wu64 (by omega) (by omega)
  have ewf : IntKind.i64.wrap (fd + 1) = fd + 1 := wi64 (by omega) (by omega)
  have hX := hXTd
  have wev : (W.getD 2 0).tmod 2 = W.getD 2 0 % 2 := Int.tmod_eq_emod_of_nonneg w2
  refine gives_x hX (fn := Tryz.f131) rfl rfl rfl rfl fun ρ w => ?_
  dsimp only [drC]
  refine sx hX [] 4000 rfl (by (simp [-List.getD_eq_getElem?_getD, -List.length_eq_zero_iff, conjP])) ?_
  refine sx hX [.F] 4000 rfl (by (simp [-List.getD_eq_getElem?_getD, -List.length_eq_zero_iff, conjP, addOP])) ?_
  refine sx hX [.T] 4000 rfl (by (simp [-List.getD_eq_getElem?_getD, -List.length_eq_zero_iff, conjP, s0, l2] <;> (first | omega | ((repeat' (refine And.intro ?_ ?_)) <;> (first | omega | exact decide_eq_false (by omega) | exact decide_eq_true (by omega)))))) ?_
  refine sx hX [.T] 4000 rfl (by (simp [-List.getD_eq_getElem?_getD, -List.length_eq_zero_iff, conjP, addOP, wev, two_nat, g])) ?_
  refine sx hX [.F] 4000 rfl (by (simp [-List.getD_eq_getElem?_getD, -List.length_eq_zero_iff, conjP, addOP, ewf, g2])) ?_
  (try simp only [two_nat, ewf]; refine ss_end hX [0, 1, 2] rfl rfl trivial rfl rfl rfl rfl ?hv ?hh ?hk ?ho; (case hv => exact clD); (case hh => exact clD); (case hk => exact clD); (case ho => exact clD))
set_option maxHeartbeats 4000000 in
theorem d2ch (P : TPre T R start ⟨false, lg, key, 2, seq, i, fd, false, tm, 0, (-1), sn, fl, bk, ep, tp, tl⟩ W st) (g : W.getD 2 0 = seq) : Dtp T R start ⟨false, lg, key, 2, seq, i, fd, false, tm, 0, (-1), sn, fl, bk, ep, tp, tl⟩ W st kd wd vl ch ⟨⟨false, lg, key, 3, seq, i, fd, true, tm, 0, (-1), sn, fl, bk, ep, tp, tl⟩, W.set 2 (seq + 1), 3, 2, seq + 1, true⟩ 0 (-1) := by
  have t1 := P.t1
  have t4 := P.t4
  have r1 := P.r1
  have r8 := P.r8
  have hst : startV (T : Int) 4 1 4 4 1 6 0 R key = (start : Int) := P.hst
  have hl := P.hl
  have s0 := P.s0
  have s1 := P.s1
  have k1 : 1 ≤ key := P.k1
  have k6 : key ≤ 6 := P.k6
  have k9 : key ≤ 2147483647 := by omega
  have q0 : 0 ≤ seq := P.q0
  have q1 : seq < 1000000000 := P.q1
  have f0 : 0 ≤ fd := P.f0
  have f1 : fd < R := P.f1
  have g0 : 0 ≤ fl := P.g0
  have n0 : 0 ≤ sn := P.n0
  have n1 : sn < 18446744073709551616 := P.n1
  have hr := right_TR t1 t4 r1 r8
  have l2 : (2 : Int) < (W.length : Int) := by omega
  have w2 := (P.hw 2).1
  have w2' := (P.hw 2).2
  have ew1 : IntKind.u64.wrap (seq + 1) = seq + 1 := wu64 (by omega) (by omega)
  have ew2 : IntKind.u64.wrap (seq + 2) = seq + 2 := wu64 (by omega) (by omega)
  have ewf : IntKind.i64.wrap (fd + 1) = fd + 1 := wi64 (by omega) (by omega)
  have hX := hXTd
  have sw1 : swW W 2 seq (seq + 1) = W.set 2 (seq + 1) := by unfold swW; rw [if_pos (by exact g)]; rfl
  have gt : W.getD (Int.toNat 2) 0 = seq := g
  refine gives_x hX (fn := Tryz.f131) rfl rfl rfl rfl fun ρ w => ?_
  dsimp only [drC]
  refine sx hX [] 4000 rfl (by (simp [-List.getD_eq_getElem?_getD, -List.length_eq_zero_iff, conjP])) ?_
  refine sx hX [.F] 4000 rfl (by (simp [-List.getD_eq_getElem?_getD, -List.length_eq_zero_iff, conjP, addOP])) ?_
  refine sx hX [.F] 4000 rfl (by (simp [-List.getD_eq_getElem?_getD, -List.length_eq_zero_iff, conjP, addOP])) ?_
  refine sx hX [.T] 4000 rfl (by (simp [-List.getD_eq_getElem?_getD, -List.length_eq_zero_iff, conjP, s0, l2] <;> (first | omega | ((repeat' (refine And.intro ?_ ?_)) <;> (first | omega | exact decide_eq_false (by omega) | exact decide_eq_true (by omega)))))) ?_
  refine sx hX [.F] 4000 rfl (by (simp [-List.getD_eq_getElem?_getD, -List.length_eq_zero_iff, conjP, addOP, g])) ?_
  (try simp only [ew1, sw1, gt, if_true, decide_true]; refine ss_end hX [0, 1, 2] rfl rfl trivial rfl rfl rfl rfl ?hv ?hh ?hk ?ho; (case hv => exact clD); (case hh => exact clD); (case hk => exact clD); (case ho => exact clD))
set_option maxHeartbeats 4000000 in
theorem d2cl (P : TPre T R start ⟨false, lg, key, 2, seq, i, fd, false, tm, 0, (-1), sn, fl, bk, ep, tp, tl⟩ W st) (g : ¬ W.getD 2 0 = seq) (g2 : fd + 1 = R) : Dtp T R start ⟨false, lg, key, 2, seq, i, fd, false, tm, 0, (-1), sn, fl, bk, ep, tp, tl⟩ W st kd wd vl ch ⟨⟨false, lg, key, 0, seq, i, (fd + 1), false, tm, 17, (-1), sn, fl, bk, ep, tp, tl⟩, W, 3, 2, W.getD 2 0, false⟩ 0 0 := by
  have t1 := P.t1
  have t4 := P.t4
  have r1 := P.r1
  have r8 := P.r8
  have hst : startV (T : Int) 4 1 4 4 1 6 0 R key = (start : Int) := P.hst
  have hl := P.hl
  have s0 := P.s0
  have s1 := P.s1
  have k1 : 1 ≤ key := P.k1
  have k6 : key ≤ 6 := P.k6
  have k9 : key ≤ 2147483647 := by omega
  have q0 : 0 ≤ seq := P.q0
  have q1 : seq < 1000000000 := P.q1
  have f0 : 0 ≤ fd := P.f0
  have f1 : fd < R := P.f1
  have g0 : 0 ≤ fl := P.g0
  have n0 : 0 ≤ sn := P.n0
  have n1 : sn < 18446744073709551616 := P.n1
  have hr := right_TR t1 t4 r1 r8
  have l2 : (2 : Int) < (W.length : Int) := by omega
  have w2 := (P.hw 2).1
  have w2' := (P.hw 2).2
  have ew1 : IntKind.u64.wrap (seq + 1) = seq + 1 := wu64 (by omega) (by omega)
  have ew2 : IntKind.u64.wrap (seq + 2) = seq + 2 := wu64 (by omega) (by omega)
  have ewf : IntKind.i64.wrap (fd + 1) = fd + 1 := wi64 (by omega) (by omega)
  have hX := hXTd
  have sw1 : swW W 2 seq (seq + 1) = W := by unfold swW; rw [if_neg (by exact g)]
  have gt : ¬ W.getD (Int.toNat 2) 0 = seq := g
  have gd : decide (W.getD 2 0 = seq) = false := decide_eq_false g
  have ewR : IntKind.i64.wrap (fd + 1) = R := by rw [ewf, g2]
  refine gives_x hX (fn := Tryz.f131) rfl rfl rfl rfl fun ρ w => ?_
  dsimp only [drC]
  refine sx hX [] 4000 rfl (by (simp [-List.getD_eq_getElem?_getD, -List.length_eq_zero_iff, conjP])) ?_
  refine sx hX [.F] 4000 rfl (by (simp [-List.getD_eq_getElem?_getD, -List.length_eq_zero_iff, conjP, addOP])) ?_
  refine sx hX [.F] 4000 rfl (by (simp [-List.getD_eq_getElem?_getD, -List.length_eq_zero_iff, conjP, addOP])) ?_
  refine sx hX [.T] 4000 rfl (by (simp [-List.getD_eq_getElem?_getD, -List.length_eq_zero_iff, conjP, s0, l2] <;> (first | omega | ((repeat' (refine And.intro ?_ ?_)) <;> (first | omega | exact decide_eq_false (by omega) | exact decide_eq_true (by omega)))))) ?_
  refine sx hX [.T] 4000 rfl (by (simp [-List.getD_eq_getElem?_getD, -List.length_eq_zero_iff, conjP, addOP, g])) ?_
  refine sx hX [.T] 4000 rfl (by (simp [-List.getD_eq_getElem?_getD, -List.length_eq_zero_iff, conjP, addOP, ewR])) ?_
  (try simp only [ew1, sw1, two_nat, gd, if_neg g, ewf]; refine ss_end hX [0, 1, 2] rfl rfl trivial rfl rfl rfl rfl ?hv ?hh ?hk ?ho; (case hv => exact clD); (case hh => exact clD); (case hk => exact clD); (case ho => exact clD))
set_option maxHeartbeats 4000000 in
theorem d2cf (P : TPre T R start ⟨false, lg, key, 2, seq, i, fd, false, tm, 0, (-1), sn, fl, bk, ep, tp, tl⟩ W st) (g : ¬ W.getD 2 0 = seq) (g2 : ¬ fd + 1 = R) : Dtp T R start ⟨false, lg, key, 2, seq, i, fd, false, tm, 0, (-1), sn, fl, bk, ep, tp, tl⟩ W st kd wd vl ch ⟨⟨false, lg, key, 1, seq, i, (fd + 1), false, tm, 0, (-1), sn, fl, bk, ep, tp, tl⟩, W, 3, 2, W.getD 2 0, false⟩ 0 0 := by
  have t1 := P.t1
  have t4 := P.t4
  have r1 := P.r1
  have r8 := P.r8
  have hst : startV (T : Int) 4 1 4 4 1 6 0 R key = (start : Int) := P.hst
  have hl := P.hl
  have s0 := P.s0
  have s1 := P.s1
  have k1 : 1 ≤ key := P.k1
  have k6 : key ≤ 6 := P.k6
  have k9 : key ≤ 2147483647 := by omega
  have q0 : 0 ≤ seq := P.q0
  have q1 : seq < 1000000000 := P.q1
  have f0 : 0 ≤ fd := P.f0
  have f1 : fd < R := P.f1
  have g0 : 0 ≤ fl := P.g0
  have n0 : 0 ≤ sn := P.n0
  have n1 : sn < 18446744073709551616 := P.n1
  have hr := right_TR t1 t4 r1 r8
  have l2 : (2 : Int) < (W.length : Int) := by omega
  have w2 := (P.hw 2).1
  have w2' := (P.hw 2).2
  have ew1 : IntKind.u64.wrap (seq + 1) = seq + 1 := wu64 (by omega) (by omega)
  have ew2 : IntKind.u64.wrap (seq + 2) = seq + 2 := wu64 (by omega) (by omega)
  have ewf : IntKind.i64.wrap (fd + 1) = fd + 1 := wi64 (by omega) (by omega)
  have hX := hXTd
  have sw1 : swW W 2 seq (seq + 1) = W := by unfold swW; rw [if_neg (by exact g)]
  have gt : ¬ W.getD (Int.toNat 2) 0 = seq := g
  have gd : decide (W.getD 2 0 = seq) = false := decide_eq_false g
  refine gives_x hX (fn := Tryz.f131) rfl rfl rfl rfl fun ρ w => ?_
  dsimp only [drC]
  refine sx hX [] 4000 rfl (by (simp [-List.getD_eq_getElem?_getD, -List.length_eq_zero_iff, conjP])) ?_
  refine sx hX [.F] 4000 rfl (by (simp [-List.getD_eq_getElem?_getD, -List.length_eq_zero_iff, conjP, addOP])) ?_
  refine sx hX [.F] 4000 rfl (by (simp [-List.getD_eq_getElem?_getD, -List.length_eq_zero_iff, conjP, addOP])) ?_
  refine sx hX [.T] 4000 rfl (by (simp [-List.getD_eq_getElem?_getD, -List.length_eq_zero_iff, conjP, s0, l2] <;> (first | omega | ((repeat' (refine And.intro ?_ ?_)) <;> (first | omega | exact decide_eq_false (by omega) | exact decide_eq_true (by omega)))))) ?_
  refine sx hX [.T] 4000 rfl (by (simp [-List.getD_eq_getElem?_getD, -List.length_eq_zero_iff, conjP, addOP, g])) ?_
  refine sx hX [.F] 4000 rfl (by (simp [-List.getD_eq_getElem?_getD, -List.length_eq_zero_iff, conjP, addOP, ewf, g2])) ?_
  (try simp only [ew1, sw1, two_nat, gd, if_neg g, ewf]; refine ss_end hX [0, 1, 2] rfl rfl trivial rfl rfl rfl rfl ?hv ?hh ?hk ?ho; (case hv => exact clD); (case hh => exact clD); (case hk => exact clD); (case ho => exact clD))
set_option maxHeartbeats 4000000 in
theorem d7c {er : Int} (P : TPre T R start ⟨false, lg, key, 7, seq, i, fd, hd, tm, er, pl, sn, fl, bk, ep, tp, tl⟩ W st) (e0 : -1 ≤ dq) (e1 : dq ≤ 1000) : Dtp T R start ⟨false, lg, key, 7, seq, i, fd, hd, tm, er, pl, sn, fl, bk, ep, tp, tl⟩ W st kd wd vl ch ⟨⟨false, lg, key, 0, seq, i, fd, false, tm, er, pl, sn, fl, bk, ep, tp, tl⟩, W.set 2 (seq + 2), 2, 2, seq + 2, true⟩ dq dq := by
  have t1 := P.t1
  have t4 := P.t4
  have r1 := P.r1
  have r8 := P.r8
  have hst : startV (T : Int) 4 1 4 4 1 6 0 R key = (start : Int) := P.hst
  have hl := P.hl
  have s0 := P.s0
  have s1 := P.s1
  have k1 : 1 ≤ key := P.k1
  have k6 : key ≤ 6 := P.k6
  have k9 : key ≤ 2147483647 := by omega
  have q0 : 0 ≤ seq := P.q0
  have q1 : seq < 1000000000 := P.q1
  have f0 : 0 ≤ fd := P.f0
  have f1 : fd < R := P.f1
  have g0 : 0 ≤ fl := P.g0
  have n0 : 0 ≤ sn := P.n0
  have n1 : sn < 18446744073709551616 := P.n1
  have hr := right_TR t1 t4 r1 r8
  have l2 : (2 : Int) < (W.length : Int) := by omega
  have w2 := (P.hw 2).1
  have w2' := (P.hw 2).2
  have ew1 : IntKind.u64.wrap (seq + 1) = seq + 1 := wu64 (by omega) (by omega)
  have ew2 : IntKind.u64.wrap (seq + 2) = seq + 2 := wu64 (by omega) (by omega)
  have ewf : IntKind.i64.wrap (fd + 1) = fd + 1 := wi64 (by omega) (by omega)
  have hX := hXTd
  refine gives_x hX (fn := Tryz.f131) rfl rfl rfl rfl fun ρ w => ?_
  dsimp only [drC]
  refine sx hX [] 4000 rfl (by (simp [-List.getD_eq_getElem?_getD, -List.length_eq_zero_iff, conjP])) ?_
  refine sx hX [.T] 4000 rfl (by (simp [-List.getD_eq_getElem?_getD, -List.length_eq_zero_iff, conjP, hr] <;> (first | omega | ((repeat' (refine And.intro ?_ ?_)) <;> (first | omega | exact decide_eq_false (by omega) | exact decide_eq_true (by omega)))))) ?_
  refine sx hX [.F] 4000 rfl (by (simp [-List.getD_eq_getElem?_getD, -List.length_eq_zero_iff, conjP, addOP])) ?_
  refine sx hX [.F] 4000 rfl (by (simp [-List.getD_eq_getElem?_getD, -List.length_eq_zero_iff, conjP, addOP])) ?_
  refine sx hX [.F] 4000 rfl (by (simp [-List.getD_eq_getElem?_getD, -List.length_eq_zero_iff, conjP, addOP])) ?_
  refine sx hX [.F] 4000 rfl (by (simp [-List.getD_eq_getElem?_getD, -List.length_eq_zero_iff, conjP, addOP])) ?_
  refine sx hX [.F] 4000 rfl (by (simp [-List.getD_eq_getElem?_getD, -List.length_eq_zero_iff, conjP, addOP])) ?_
  refine sx hX [.F] 4000 rfl (by (simp [-List.getD_eq_getElem?_getD, -List.length_eq_zero_iff, conjP, addOP])) ?_
  refine sx hX [.T] 4000 rfl (by (simp [-List.getD_eq_getElem?_getD, -List.length_eq_zero_iff, conjP, s0, l2] <;> (first | omega | ((repeat' (refine And.intro ?_ ?_)) <;> (first | omega | exact decide_eq_false (by omega) | exact decide_eq_true (by omega)))))) ?_
  (try simp only [ew2, two_nat]; refine ss_end hX [0, 1, 2] rfl rfl trivial rfl rfl rfl rfl ?hv ?hh ?hk ?ho; (case hv => exact clD); (case hh => exact clD); (case hk => exact clD); (case ho => exact clD))
set_option maxHeartbeats 4000000 in
theorem d1re (P : TPre T R start ⟨true, lg, key, 1, seq, i, fd, hd, tm, 0, pl, sn, fl, bk, ep, tp, tl⟩ W st) (g : ¬ W.getD 2 0 % 2 = 1) : Dtp T R start ⟨true, lg, key, 1, seq, i, fd, hd, tm, 0, pl, sn, fl, bk, ep, tp, tl⟩ W st kd wd vl ch ⟨⟨true, lg, key, 2, (W.getD 2 0), i, fd, hd, tm, 0, pl, sn, fl, bk, ep, tp, tl⟩, W, 1, 2, W.getD 2 0, false⟩ 0 0 := by
  have t1 := P.t1
  have t4 := P.t4
  have r1 := P.r1
  have r8 := P.r8
  have hst : startV (T : Int) 4 1 4 4 1 6 0 R key = (start : Int) := P.hst
  have hl := P.hl
  have s0 := P.s0
  have s1 := P.s1
  have k1 : 1 ≤ key := P.k1
  have k6 : key ≤ 6 := P.k6
  have k9 : key ≤ 2147483647 := by omega
  have q0 : 0 ≤ seq := P.q0
  have q1 : seq < 1000000000 := P.q1
  have f0 : 0 ≤ fd := P.f0
  have f1 : fd < R := P.f1
  have g0 : 0 ≤ fl := P.g0
  have n0 : 0 ≤ sn := P.n0
  have n1 : sn < 18446744073709551616 := P.n1
  have hr := right_TR t1 t4 r1 r8
  have l2 : (2 : Int) < (W.length : Int) := by omega
  have w2 := (P.hw 2).1
  have w2' := (P.hw 2).2
  have ew1 : IntKind.u64.wrap (seq + 1) = seq + 1 := wu64 (by omega) (by omega)
  have ew2 : IntKind.u64.wrap (seq + 2) = seq + 2 := wu64 (by omega) (by omega)
  have ewf : IntKind.i64.wrap (fd + 1) = fd + 1 := wi64 (by omega) (by omega)
  have hX := hXTd
  have wev : (W.getD 2 0).tmod 2 = W.getD 2 0 % 2 := Int.tmod_eq_emod_of_nonneg w2
  refine gives_x hX (fn := Tryz.f131) rfl rfl rfl rfl fun ρ w => ?_
  dsimp only [drC]
  refine sx hX [] 4000 rfl (by (simp [-List.getD_eq_getElem?_getD, -List.length_eq_zero_iff, conjP])) ?_
  refine sx hX [.F] 4000 rfl (by (simp [-List.getD_eq_getElem?_getD, -List.length_eq_zero_iff, conjP, addOP])) ?_
  refine sx hX [.T] 4000 rfl (by (simp [-List.getD_eq_getElem?_getD, -List.length_eq_zero_iff, conjP, s0, l2] <;> (first | omega | ((repeat' (refine And.intro ?_ ?_)) <;> (first | omega | exact decide_eq_false (by omega) | exact decide_eq_true (by omega)))))) ?_
  refine sx hX [.F] 4000 rfl (by (simp [-List.getD_eq_getElem?_getD, -List.length_eq_zero_iff, conjP, addOP, wev, two_nat, g])) ?_
  (try simp only [two_nat]; refine ss_end hX [0, 1, 2] rfl rfl trivial rfl rfl rfl rfl ?hv ?hh ?hk ?ho; (case hv => exact clD); (case hh => exact clD); (case hk => exact clD); (case ho => exact clD))
set_option maxHeartbeats 4000000 in
theorem d1rl (P : TPre T R start ⟨true, lg, key, 1, seq, i, fd, hd, tm, 0, pl, sn, fl, bk, ep, tp, tl⟩ W st) (g : W.getD 2 0 % 2 = 1) (g2 : fd + 1 = R) : Dtp T R start ⟨true, lg, key, 1, seq, i, fd, hd, tm, 0, pl, sn, fl, bk, ep, tp, tl⟩ W st kd wd vl ch ⟨⟨true, lg, key, 0, (W.getD 2 0), i, (fd + 1), hd, tm, 17, pl, sn, fl, bk, ep, tp, tl⟩, W, 1, 2, W.getD 2 0, false⟩ 0 0 := by
  have t1 := P.t1
  have t4 := P.t4
  have r1 := P.r1
  have r8 := P.r8
  have hst : startV (T : Int) 4 1 4 4 1 6 0 R key = (start : Int) := P.hst
  have hl := P.hl
  have s0 := P.s0
  have s1 := P.s1
  have k1 : 1 ≤ key := P.k1
  have k6 : key ≤ 6 := P.k6
  have k9 : key ≤ 2147483647 := by omega
  have q0 : 0 ≤ seq := P.q0
  have q1 : seq < 1000000000 := P.q1
  have f0 : 0 ≤ fd := P.f0
  have f1 : fd < R := P.f1
  have g0 : 0 ≤ fl := P.g0
  have n0 : 0 ≤ sn := P.n0
  have n1 : sn < 18446744073709551616 := P.n1
  have hr := right_TR t1 t4 r1 r8
  have l2 : (2 : Int) < (W.length : Int) := by omega
  have w2 := (P.hw 2).1
  have w2' := (P.hw 2).2
  have ew1 : IntKind.u64.wrap (seq + 1) = seq + 1 := wu64 (by omega) (by omega)
  have ew2 : IntKind.u64.wrap (seq + 2) = seq + 2 := wu64 (by omega) (by omega)
  have ewf : IntKind.i64.wrap (fd + 1) = fd + 1 := wi64 (by omega) (by omega)
  have hX := hXTd
  have wev : (W.getD 2 0).tmod 2 = W.getD 2 0 % 2 := Int.tmod_eq_emod_of_nonneg w2
  have ewR : IntKind.i64.wrap (fd + 1) = R := by rw [ewf, g2]
  refine gives_x hX (fn := Tryz.f131) rfl rfl rfl rfl fun ρ w => ?_
  dsimp only [drC]
  refine sx hX [] 4000 rfl (by (simp [-List.getD_eq_getElem?_getD, -List.length_eq_zero_iff, conjP])) ?_
  refine sx hX [.F] 4000 rfl (by (simp [-List.getD_eq_getElem?_getD, -List.length_eq_zero_iff, conjP, addOP])) ?_
  refine sx hX [.T] 4000 rfl (by (simp [-List.getD_eq_getElem?_getD, -List.length_eq_zero_iff, conjP, s0, l2] <;> (first | omega | ((repeat' (refine And.intro ?_ ?_)) <;> (first | omega | exact decide_eq_false (by omega) | exact decide_eq_true (by omega)))))) ?_
  refine sx hX [.T] 4000 rfl (by (simp [-List.getD_eq_getElem?_getD, -List.length_eq_zero_iff, conjP, addOP, wev, two_nat, g])) ?_
  refine sx hX [.T] 4000 rfl (by (simp [-List.getD_eq_getElem?_getD, -List.length_eq_zero_iff, conjP, addOP, ewR])) ?_
  (try simp only [two_nat, ewf]; refine ss_end hX [0, 1, 2] rfl rfl trivial rfl rfl rfl rfl ?hv ?hh ?hk ?ho; (case hv => exact clD); (case hh => exact clD); (case hk => exact clD); (case ho => exact clD))
set_option maxHeartbeats 4000000 in
theorem d1rf (P : TPre T R start ⟨true, lg, key, 1, seq, i, fd, hd, tm, 0, pl, sn, fl, bk, ep, tp, tl⟩ W st) (g : W.getD 2 0 % 2 = 1) (g2 : ¬ fd + 1 = R) : Dtp T R start ⟨true, lg, key, 1, seq, i, fd, hd, tm, 0, pl, sn, fl, bk, ep, tp, tl⟩ W st kd wd vl ch ⟨⟨true, lg, key, 1, (W.getD 2 0), i, (fd + 1), hd, tm, 0, pl, sn, fl, bk, ep, tp, tl⟩, W, 1, 2, W.getD 2 0, false⟩ 0 0 := by
  have t1 := P.t1
  have t4 := P.t4
  have r1 := P.r1
  have r8 := P.r8
  have hst : startV (T : Int) 4 1 4 4 1 6 0 R key = (start : Int) := P.hst
  have hl := P.hl
  have s0 := P.s0
  have s1 := P.s1
  have k1 : 1 ≤ key := P.k1
  have k6 : key ≤ 6 := P.k6
  have k9 : key ≤ 2147483647 := by omega
  have q0 : 0 ≤ seq := P.q0
  have q1 : seq < 1000000000 := P.q1
  have f0 : 0 ≤ fd := P.f0
  have f1 : fd < R := P.f1
  have g0 : 0 ≤ fl := P.g0
  have n0 : 0 ≤ sn := P.n0
  have n1 : sn < 18446744073709551616 := P.n1
  have hr := right_TR t1 t4 r1 r8
  have l2 : (2 : Int) < (W.length : Int) := by omega
  have w2 := (P.hw 2).1
  have w2' := (P.hw 2).2
  have ew1 : IntKind.u64.wrap (seq + 1) = seq + 1 := wu64 (by omega) (by omega)
  have ew2 : IntKind.u64.wrap (seq + 2) = seq + 2 := wu64 (by omega) (by omega)
  have ewf : IntKind.i64.wrap (fd + 1) = fd + 1 := wi64 (by omega) (by omega)
  have hX := hXTd
  have wev : (W.getD 2 0).tmod 2 = W.getD 2 0 % 2 := Int.tmod_eq_emod_of_nonneg w2
  refine gives_x hX (fn := Tryz.f131) rfl rfl rfl rfl fun ρ w => ?_
  dsimp only [drC]
  refine sx hX [] 4000 rfl (by (simp [-List.getD_eq_getElem?_getD, -List.length_eq_zero_iff, conjP])) ?_
  refine sx hX [.F] 4000 rfl (by (simp [-List.getD_eq_getElem?_getD, -List.length_eq_zero_iff, conjP, addOP])) ?_
  refine sx hX [.T] 4000 rfl (by (simp [-List.getD_eq_getElem?_getD, -List.length_eq_zero_iff, conjP, s0, l2] <;> (first | omega | ((repeat' (refine And.intro ?_ ?_)) <;> (first | omega | exact decide_eq_false (by omega) | exact decide_eq_true (by omega)))))) ?_
  refine sx hX [.T] 4000 rfl (by (simp [-List.getD_eq_getElem?_getD, -List.length_eq_zero_iff, conjP, addOP, wev, two_nat, g])) ?_
  refine sx hX [.F] 4000 rfl (by (simp [-List.getD_eq_getElem?_getD, -List.length_eq_zero_iff, conjP, addOP, ewf, g2])) ?_
  (try simp only [two_nat, ewf]; refine ss_end hX [0, 1, 2] rfl rfl trivial rfl rfl rfl rfl ?hv ?hh ?hk ?ho; (case hv => exact clD); (case hh => exact clD); (case hk => exact clD); (case ho => exact clD))
set_option maxHeartbeats 4000000 in
theorem d2rh (P : TPre T R start ⟨true, lg, key, 2, seq, i, fd, false, tm, 0, pl, sn, fl, bk, ep, tp, tl⟩ W st) (g : W.getD 2 0 = seq) : Dtp T R start ⟨true, lg, key, 2, seq, i, fd, false, tm, 0, pl, sn, fl, bk, ep, tp, tl⟩ W st kd wd vl ch ⟨⟨true, lg, key, 3, seq, i, fd, true, tm, 0, pl, sn, fl, bk, ep, tp, tl⟩, W.set 2 (seq + 1), 3, 2, seq + 1, true⟩ 0 (-1) := by
  have t1 := P.t1
  have t4 := P.t4
  have r1 := P.r1
  have r8 := P.r8
  have hst : startV (T : Int) 4 1 4 4 1 6 0 R key = (start : Int) := P.hst
  have hl := P.hl
  have s0 := P.s0
  have s1 := P.s1
  have k1 : 1 ≤ key := P.k1
  have k6 : key ≤ 6 := P.k6
  have k9 : key ≤ 2147483647 := by omega
  have q0 : 0 ≤ seq := P.q0
  have q1 : seq < 1000000000 := P.q1
  have f0 : 0 ≤ fd := P.f0
  have f1 : fd < R := P.f1
  have g0 : 0 ≤ fl := P.g0
  have n0 : 0 ≤ sn := P.n0
  have n1 : sn < 18446744073709551616 := P.n1
  have hr := right_TR t1 t4 r1 r8
  have l2 : (2 : Int) < (W.length : Int) := by omega
  have w2 := (P.hw 2).1
  have w2' := (P.hw 2).2
  have ew1 : IntKind.u64.wrap (seq + 1) = seq + 1 := wu64 (by omega) (by omega)
  have ew2 : IntKind.u64.wrap (seq + 2) = seq + 2 := wu64 (by omega) (by omega)
  have ewf : IntKind.i64.wrap (fd + 1) = fd + 1 := wi64 (by omega) (by omega)
  have hX := hXTd
  have sw1 : swW W 2 seq (seq + 1) = W.set 2 (seq + 1) := by unfold swW; rw [if_pos (by exact g)]; rfl
  have gt : W.getD (Int.toNat 2) 0 = seq := g
  refine gives_x hX (fn := Tryz.f131) rfl rfl rfl rfl fun ρ w => ?_
  dsimp only [drC]
  refine sx hX [] 4000 rfl (by (simp [-List.getD_eq_getElem?_getD, -List.length_eq_zero_iff, conjP])) ?_
  refine sx hX [.F] 4000 rfl (by (simp [-List.getD_eq_getElem?_getD, -List.length_eq_zero_iff, conjP, addOP])) ?_
  refine sx hX [.F] 4000 rfl (by (simp [-List.getD_eq_getElem?_getD, -List.length_eq_zero_iff, conjP, addOP])) ?_
  refine sx hX [.T] 4000 rfl (by (simp [-List.getD_eq_getElem?_getD, -List.length_eq_zero_iff, conjP, s0, l2] <;> (first | omega | ((repeat' (refine And.intro ?_ ?_)) <;> (first | omega | exact decide_eq_false (by omega) | exact decide_eq_true (by omega)))))) ?_
  refine sx hX [.F] 4000 rfl (by (simp [-List.getD_eq_getElem?_getD, -List.length_eq_zero_iff, conjP, addOP, g])) ?_
  (try simp only [ew1, sw1, gt, if_true, decide_true]; refine ss_end hX [0, 1, 2] rfl rfl trivial rfl rfl rfl rfl ?hv ?hh ?hk ?ho; (case hv => exact clD); (case hh => exact clD); (case hk => exact clD); (case ho => exact clD))
set_option maxHeartbeats 4000000 in
theorem d2rl (P : TPre T R start ⟨true, lg, key, 2, seq, i, fd, false, tm, 0, pl, sn, fl, bk, ep, tp, tl⟩ W st) (g : ¬ W.getD 2 0 = seq) (g2 : fd + 1 = R) : Dtp T R start ⟨true, lg, key, 2, seq, i, fd, false, tm, 0, pl, sn, fl, bk, ep, tp, tl⟩ W st kd wd vl ch ⟨⟨true, lg, key, 0, seq, i, (fd + 1), false, tm, 17, pl, sn, fl, bk, ep, tp, tl⟩, W, 3, 2, W.getD 2 0, false⟩ 0 0 := by
  have t1 := P.t1
  have t4 := P.t4
  have r1 := P.r1
  have r8 := P.r8
  have hst : startV (T : Int) 4 1 4 4 1 6 0 R key = (start : Int) := P.hst
  have hl := P.hl
  have s0 := P.s0
  have s1 := P.s1
  have k1 : 1 ≤ key := P.k1
  have k6 : key ≤ 6 := P.k6
  have k9 : key ≤ 2147483647 := by omega
  have q0 : 0 ≤ seq := P.q0
  have q1 : seq < 1000000000 := P.q1
  have f0 : 0 ≤ fd := P.f0
  have f1 : fd < R := P.f1
  have g0 : 0 ≤ fl := P.g0
  have n0 : 0 ≤ sn := P.n0
  have n1 : sn < 18446744073709551616 := P.n1
  have hr := right_TR t1 t4 r1 r8
  have l2 : (2 : Int) < (W.length : Int) := by omega
  have w2 := (P.hw 2).1
  have w2' := (P.hw 2).2
  have ew1 : IntKind.u64.wrap (seq + 1) = seq + 1 := wu64 (by omega) (by omega)
  have ew2 : IntKind.u64.wrap (seq + 2) = seq + 2 := wu64 (by omega) (by omega)
  have ewf : IntKind.i64.wrap (fd + 1) = fd + 1 := wi64 (by omega) (by omega)
  have hX := hXTd
  have sw1 : swW W 2 seq (seq + 1) = W := by unfold swW; rw [if_neg (by exact g)]
  have gt : ¬ W.getD (Int.toNat 2) 0 = seq := g
  have gd : decide (W.getD 2 0 = seq) = false := decide_eq_false g
  have ewR : IntKind.i64.wrap (fd + 1) = R := by rw [ewf, g2]
  refine gives_x hX (fn := Tryz.f131) rfl rfl rfl rfl fun ρ w => ?_
  dsimp only [drC]
  refine sx hX [] 4000 rfl (by (simp [-List.getD_eq_getElem?_getD, -List.length_eq_zero_iff, conjP])) ?_
  refine sx hX [.F] 4000 rfl (by (simp [-List.getD_eq_getElem?_getD, -List.length_eq_zero_iff, conjP, addOP])) ?_
  refine sx hX [.F] 4000 rfl (by (simp [-List.getD_eq_getElem?_getD, -List.length_eq_zero_iff, conjP, addOP])) ?_
  refine sx hX [.T] 4000 rfl (by (simp [-List.getD_eq_getElem?_getD, -List.length_eq_zero_iff, conjP, s0, l2] <;> (first | omega | ((repeat' (refine And.intro ?_ ?_)) <;> (first | omega | exact decide_eq_false (by omega) | exact decide_eq_true (by omega)))))) ?_
  refine sx hX [.T] 4000 rfl (by (simp [-List.getD_eq_getElem?_getD, -List.length_eq_zero_iff, conjP, addOP, g])) ?_
  refine sx hX [.T] 4000 rfl (by (simp [-List.getD_eq_getElem?_getD, -List.length_eq_zero_iff, conjP, addOP, ewR])) ?_
  (try simp only [ew1, sw1, two_nat, gd, if_neg g, ewf]; refine ss_end hX [0, 1, 2] rfl rfl trivial rfl rfl rfl rfl ?hv ?hh ?hk ?ho; (case hv => exact clD); (case hh => exact clD); (case hk => exact clD); (case ho => exact clD))
set_option maxHeartbeats 4000000 in
theorem d2rf (P : TPre T R start ⟨true, lg, key, 2, seq, i, fd, false, tm, 0, pl, sn, fl, bk, ep, tp, tl⟩ W st) (g : ¬ W.getD 2 0 = seq) (g2 : ¬ fd + 1 = R) : Dtp T R start ⟨true, lg, key, 2, seq, i, fd, false, tm, 0, pl, sn, fl, bk, ep, tp, tl⟩ W st kd wd vl ch ⟨⟨true, lg, key, 1, seq, i, (fd + 1), false, tm, 0, pl, sn, fl, bk, ep, tp, tl⟩, W, 3, 2, W.getD 2 0, false⟩ 0 0 := by
  have t1 := P.t1
  have t4 := P.t4
  have r1 := P.r1
  have r8 := P.r8
  have hst : startV (T : Int) 4 1 4 4 1 6 0 R key = (start : Int) := P.hst
  have hl := P.hl
  have s0 := P.s0
  have s1 := P.s1
  have k1 : 1 ≤ key := P.k1
  have k6 : key ≤ 6 := P.k6
  have k9 : key ≤ 2147483647 := by omega
  have q0 : 0 ≤ seq := P.q0
  have q1 : seq < 1000000000 := P.q1
  have f0 : 0 ≤ fd := P.f0
  have f1 : fd < R := P.f1
  have g0 : 0 ≤ fl := P.g0
  have n0 : 0 ≤ sn := P.n0
  have n1 : sn < 18446744073709551616 := P.n1
  have hr := right_TR t1 t4 r1 r8
  have l2 : (2 : Int) < (W.length : Int) := by omega
  have w2 := (P.hw 2).1
  have w2' := (P.hw 2).2
  have ew1 : IntKind.u64.wrap (seq + 1) = seq + 1 := wu64 (by omega) (by omega)
  have ew2 : IntKind.u64.wrap (seq + 2) = seq + 2 := wu64 (by omega) (by omega)
  have ewf : IntKind.i64.wrap (fd + 1) = fd + 1 := wi64 (by omega) (by omega)
  have hX := hXTd
  have sw1 : swW W 2 seq (seq + 1) = W := by unfold swW; rw [if_neg (by exact g)]
  have gt : ¬ W.getD (Int.toNat 2) 0 = seq := g
  have gd : decide (W.getD 2 0 = seq) = false := decide_eq_false g
  refine gives_x hX (fn := Tryz.f131) rfl rfl rfl rfl fun ρ w => ?_
  dsimp only [drC]
  refine sx hX [] 4000 rfl (by (simp [-List.getD_eq_getElem?_getD, -List.length_eq_zero_iff, conjP])) ?_
  refine sx hX [.F] 4000 rfl (by (simp [-List.getD_eq_getElem?_getD, -List.length_eq_zero_iff, conjP, addOP])) ?_
  refine sx hX [.F] 4000 rfl (by (simp [-List.getD_eq_getElem?_getD, -List.length_eq_zero_iff, conjP, addOP])) ?_
  refine sx hX [.T] 4000 rfl (by (simp [-List.getD_eq_getElem?_getD, -List.length_eq_zero_iff, conjP, s0, l2] <;> (first | omega | ((repeat' (refine And.intro ?_ ?_)) <;> (first | omega | exact decide_eq_false (by omega) | exact decide_eq_true (by omega)))))) ?_
  refine sx hX [.T] 4000 rfl (by (simp [-List.getD_eq_getElem?_getD, -List.length_eq_zero_iff, conjP, addOP, g])) ?_
  refine sx hX [.F] 4000 rfl (by (simp [-List.getD_eq_getElem?_getD, -List.length_eq_zero_iff, conjP, addOP, ewf, g2])) ?_
  (try simp only [ew1, sw1, two_nat, gd, if_neg g, ewf]; refine ss_end hX [0, 1, 2] rfl rfl trivial rfl rfl rfl rfl ?hv ?hh ?hk ?ho; (case hv => exact clD); (case hh => exact clD); (case hk => exact clD); (case ho => exact clD))
set_option maxHeartbeats 4000000 in
theorem d7r {er : Int} (P : TPre T R start ⟨true, lg, key, 7, seq, i, fd, hd, tm, er, pl, sn, fl, bk, ep, tp, tl⟩ W st) (e0 : -1 ≤ dq) (e1 : dq ≤ 1000) : Dtp T R start ⟨true, lg, key, 7, seq, i, fd, hd, tm, er, pl, sn, fl, bk, ep, tp, tl⟩ W st kd wd vl ch ⟨⟨true, lg, key, 0, seq, i, fd, false, tm, er, pl, sn, fl, bk, ep, tp, tl⟩, W.set 2 (seq + 2), 2, 2, seq + 2, true⟩ dq dq := by
  have t1 := P.t1
  have t4 := P.t4
  have r1 := P.r1
  have r8 := P.r8
  have hst : startV (T : Int) 4 1 4 4 1 6 0 R key = (start : Int) := P.hst
  have hl := P.hl
  have s0 := P.s0
  have s1 := P.s1
  have k1 : 1 ≤ key := P.k1
  have k6 : key ≤ 6 := P.k6
  have k9 : key ≤ 2147483647 := by omega
  have q0 : 0 ≤ seq := P.q0
  have q1 : seq < 1000000000 := P.q1
  have f0 : 0 ≤ fd := P.f0
  have f1 : fd < R := P.f1
  have g0 : 0 ≤ fl := P.g0
  have n0 : 0 ≤ sn := P.n0
  have n1 : sn < 18446744073709551616 := P.n1
  have hr := right_TR t1 t4 r1 r8
  have l2 : (2 : Int) < (W.length : Int) := by omega
  have w2 := (P.hw 2).1
  have w2' := (P.hw 2).2
  have ew1 : IntKind.u64.wrap (seq + 1) = seq + 1 := wu64 (by omega) (by omega)
  have ew2 : IntKind.u64.wrap (seq + 2) = seq + 2 := wu64 (by omega) (by omega)
  have ewf : IntKind.i64.wrap (fd + 1) = fd + 1 := wi64 (by omega) (by omega)
  have hX := hXTd
  refine gives_x hX (fn := Tryz.f131) rfl rfl rfl rfl fun ρ w => ?_
  dsimp only [drC]
  refine sx hX [] 4000 rfl (by (simp [-List.getD_eq_getElem?_getD, -List.length_eq_zero_iff, conjP])) ?_
  refine sx hX [.T] 4000 rfl (by (simp [-List.getD_eq_getElem?_getD, -List.length_eq_zero_iff, conjP, hr] <;> (first | omega | ((repeat' (refine And.intro ?_ ?_)) <;> (first | omega | exact decide_eq_false (by omega) | exact decide_eq_true (by omega)))))) ?_
  refine sx hX [.F] 4000 rfl (by (simp [-List.getD_eq_getElem?_getD, -List.length_eq_zero_iff, conjP, addOP])) ?_
  refine sx hX [.F] 4000 rfl (by (simp [-List.getD_eq_getElem?_getD, -List.length_eq_zero_iff, conjP, addOP])) ?_
  refine sx hX [.F] 4000 rfl (by (simp [-List.getD_eq_getElem?_getD, -List.length_eq_zero_iff, conjP, addOP])) ?_
  refine sx hX [.F] 4000 rfl (by (simp [-List.getD_eq_getElem?_getD, -List.length_eq_zero_iff, conjP, addOP])) ?_
  refine sx hX [.F] 4000 rfl (by (simp [-List.getD_eq_getElem?_getD, -List.length_eq_zero_iff, conjP, addOP])) ?_
  refine sx hX [.F] 4000 rfl (by (simp [-List.getD_eq_getElem?_getD, -List.length_eq_zero_iff, conjP, addOP])) ?_
  refine sx hX [.T] 4000 rfl (by (simp [-List.getD_eq_getElem?_getD, -List.length_eq_zero_iff, conjP, s0, l2] <;> (first | omega | ((repeat' (refine And.intro ?_ ?_)) <;> (first | omega | exact decide_eq_false (by omega) | exact decide_eq_true (by omega)))))) ?_
  (try simp only [ew2, two_nat]; refine ss_end hX [0, 1, 2] rfl rfl trivial rfl rfl rfl rfl ?hv ?hh ?hk ?ho; (case hv => exact clD); (case hh => exact clD); (case hk => exact clD); (case ho => exact clD))
set_option maxHeartbeats 4000000 in
theorem d4c (P : TPre T R start ⟨false, lg, key, 4, seq, i, fd, hd, tm, 0, pl, sn, fl, bk, ep, tp, tl⟩ W st)  : Dtp T R start ⟨false, lg, key, 4, seq, i, fd, hd, tm, 0, pl, sn, fl, bk, ep, tp, tl⟩ W st kd wd vl ch ⟨⟨false, lg, key, 5, seq, i, fd, hd, tm, 0, pl, (W.getD (cP T pl.toNat) 0), fl, bk, ep, tp, tl⟩, W, 1, (cP T pl.toNat : Int), W.getD (cP T pl.toNat) 0, false⟩ pl pl := by
  have t1 := P.t1
  have t4 := P.t4
  have r1 := P.r1
  have r8 := P.r8
  have hst : startV (T : Int) 4 1 4 4 1 6 0 R key = (start : Int) := P.hst
  have hl := P.hl
  have s0 := P.s0
  have s1 := P.s1
  have k1 : 1 ≤ key := P.k1
  have k6 : key ≤ 6 := P.k6
  have k9 : key ≤ 2147483647 := by omega
  have q0 : 0 ≤ seq := P.q0
  have q1 : seq < 1000000000 := P.q1
  have f0 : 0 ≤ fd := P.f0
  have f1 : fd < R := P.f1
  have g0 : 0 ≤ fl := P.g0
  have n0 : 0 ≤ sn := P.n0
  have n1 : sn < 18446744073709551616 := P.n1
  have hr := right_TR t1 t4 r1 r8
  have l2 : (2 : Int) < (W.length : Int) := by omega
  have w2 := (P.hw 2).1
  have w2' := (P.hw 2).2
  have ew1 : IntKind.u64.wrap (seq + 1) = seq + 1 := wu64 (by omega) (by omega)
  have ew2 : IntKind.u64.wrap (seq + 2) = seq + 2 := wu64 (by omega) (by omega)
  have ewf : IntKind.i64.wrap (fd + 1) = fd + 1 := wi64 (by omega) (by omega)
  have hX := hXTd
  obtain ⟨p, hp, hpl⟩ := P.pe (by show 4 ≤ 4; omega) (by show 4 ≤ 6; omega)
  have hpl : pl = (p : Int) := hpl
  subst hpl
  have en := ent_at (R := R) hp
  have cn := ctl_at (R := R) hp
  have el := eP_lt' hl hp
  have cl_ := cP_lt' hl hp
  have c0 := (P.hw (cP T p)).1
  have c1 := (P.hw (cP T p)).2
  refine gives_x hX (fn := Tryz.f131) rfl rfl rfl rfl fun ρ w => ?_
  dsimp only [drC]
  refine sx hX [] 4000 rfl (by (simp [-List.getD_eq_getElem?_getD, -List.length_eq_zero_iff, conjP])) ?_
  refine sx hX [.T] 4000 rfl (by (simp [-List.getD_eq_getElem?_getD, -List.length_eq_zero_iff, conjP, hr] <;> (first | omega | ((repeat' (refine And.intro ?_ ?_)) <;> (first | omega | exact decide_eq_false (by omega) | exact decide_eq_true (by omega)))))) ?_
  refine sx hX [.F] 4000 rfl (by (simp [-List.getD_eq_getElem?_getD, -List.length_eq_zero_iff, conjP, addOP])) ?_
  refine sx hX [.F] 4000 rfl (by (simp [-List.getD_eq_getElem?_getD, -List.length_eq_zero_iff, conjP, addOP])) ?_
  refine sx hX [.F] 4000 rfl (by (simp [-List.getD_eq_getElem?_getD, -List.length_eq_zero_iff, conjP, addOP])) ?_
  refine sx hX [.T] 4000 rfl (by (simp [-List.getD_eq_getElem?_getD, -List.length_eq_zero_iff, conjP, s0, cn, cl_] <;> (first | omega | ((repeat' (refine And.intro ?_ ?_)) <;> (first | omega | exact decide_eq_false (by omega) | exact decide_eq_true (by omega)))))) ?_
  refine sx hX [.F] 4000 rfl (by (simp [-List.getD_eq_getElem?_getD, -List.length_eq_zero_iff, conjP, addOP])) ?_
  (try simp only [en, cn, Int.toNat_natCast]; refine ss_end hX [0, 1, 2] rfl rfl trivial rfl rfl rfl rfl ?hv ?hh ?hk ?ho; (case hv => exact clD); (case hh => exact clD); (case hk => exact clD); (case ho => exact clD))
set_option maxHeartbeats 4000000 in
theorem d5c (P : TPre T R start ⟨false, lg, key, 5, seq, i, fd, hd, tm, 0, pl, sn, fl, bk, ep, tp, tl⟩ W st)  : Dtp T R start ⟨false, lg, key, 5, seq, i, fd, hd, tm, 0, pl, sn, fl, bk, ep, tp, tl⟩ W st kd wd vl ch ⟨⟨false, lg, key, 6, seq, i, fd, hd, (st + 1), 0, pl, sn, fl, bk, (epW sn), pl, lg⟩, W.set (cP T pl.toNat) (bornW sn), 2, (cP T pl.toNat : Int), bornW sn, true⟩ pl pl := by
  have t1 := P.t1
  have t4 := P.t4
  have r1 := P.r1
  have r8 := P.r8
  have hst : startV (T : Int) 4 1 4 4 1 6 0 R key = (start : Int) := P.hst
  have hl := P.hl
  have s0 := P.s0
  have s1 := P.s1
  have k1 : 1 ≤ key := P.k1
  have k6 : key ≤ 6 := P.k6
  have k9 : key ≤ 2147483647 := by omega
  have q0 : 0 ≤ seq := P.q0
  have q1 : seq < 1000000000 := P.q1
  have f0 : 0 ≤ fd := P.f0
  have f1 : fd < R := P.f1
  have g0 : 0 ≤ fl := P.g0
  have n0 : 0 ≤ sn := P.n0
  have n1 : sn < 18446744073709551616 := P.n1
  have hr := right_TR t1 t4 r1 r8
  have l2 : (2 : Int) < (W.length : Int) := by omega
  have w2 := (P.hw 2).1
  have w2' := (P.hw 2).2
  have ew1 : IntKind.u64.wrap (seq + 1) = seq + 1 := wu64 (by omega) (by omega)
  have ew2 : IntKind.u64.wrap (seq + 2) = seq + 2 := wu64 (by omega) (by omega)
  have ewf : IntKind.i64.wrap (fd + 1) = fd + 1 := wi64 (by omega) (by omega)
  have hX := hXTd
  obtain ⟨p, hp, hpl⟩ := P.pe (by show 4 ≤ 5; omega) (by show 5 ≤ 6; omega)
  have hpl : pl = (p : Int) := hpl
  subst hpl
  have en := ent_at (R := R) hp
  have cn := ctl_at (R := R) hp
  have el := eP_lt' hl hp
  have cl_ := cP_lt' hl hp
  have c0 := (P.hw (cP T p)).1
  have c1 := (P.hw (cP T p)).2
  refine gives_x hX (fn := Tryz.f131) rfl rfl rfl rfl fun ρ w => ?_
  dsimp only [drC]
  refine sx hX [] 4000 rfl (by (simp [-List.getD_eq_getElem?_getD, -List.length_eq_zero_iff, conjP])) ?_
  refine sx hX [.T] 4000 rfl (by (simp [-List.getD_eq_getElem?_getD, -List.length_eq_zero_iff, conjP, hr] <;> (first | omega | ((repeat' (refine And.intro ?_ ?_)) <;> (first | omega | exact decide_eq_false (by omega) | exact decide_eq_true (by omega)))))) ?_
  refine sx hX [.F] 4000 rfl (by (simp [-List.getD_eq_getElem?_getD, -List.length_eq_zero_iff, conjP, addOP])) ?_
  refine sx hX [.F] 4000 rfl (by (simp [-List.getD_eq_getElem?_getD, -List.length_eq_zero_iff, conjP, addOP])) ?_
  refine sx hX [.F] 4000 rfl (by (simp [-List.getD_eq_getElem?_getD, -List.length_eq_zero_iff, conjP, addOP])) ?_
  refine sx hX [.F] 4000 rfl (by (simp [-List.getD_eq_getElem?_getD, -List.length_eq_zero_iff, conjP, addOP])) ?_
  refine sx hX [.T] 4000 rfl (by (simp [-List.getD_eq_getElem?_getD, -List.length_eq_zero_iff, conjP, addOP])) ?_
  refine sx hX [.T] 4000 rfl (by (simp [-List.getD_eq_getElem?_getD, -List.length_eq_zero_iff, conjP, getH, HE.so, s0, n0, n1, cn, cl_] <;> (first | omega | ((repeat' (refine And.intro ?_ ?_)) <;> (first | omega | exact decide_eq_false (by omega) | exact decide_eq_true (by omega)))))) ?_
  (try simp only [en, cn, Int.toNat_natCast]; refine ss_end hX [0, 1, 2] rfl rfl trivial rfl rfl rfl rfl ?hv ?hh ?hk ?ho; (case hv => exact clD); (case hh => exact clD); (case hk => exact clD); (case ho => exact clD))
set_option maxHeartbeats 4000000 in
theorem d6c (P : TPre T R start ⟨false, lg, key, 6, seq, i, fd, hd, tm, 0, pl, sn, fl, bk, ep, tp, tl⟩ W st)  : Dtp T R start ⟨false, lg, key, 6, seq, i, fd, hd, tm, 0, pl, sn, fl, bk, ep, tp, tl⟩ W st kd wd vl ch ⟨⟨false, lg, key, 7, seq, i, fd, hd, tm, 0, pl, sn, fl, bk, ep, tp, tl⟩, W.set (eP pl.toNat) (enK key lg), 2, (eP pl.toNat : Int), enK key lg, true⟩ pl pl := by
  have t1 := P.t1
  have t4 := P.t4
  have r1 := P.r1
  have r8 := P.r8
  have hst : startV (T : Int) 4 1 4 4 1 6 0 R key = (start : Int) := P.hst
  have hl := P.hl
  have s0 := P.s0
  have s1 := P.s1
  have k1 : 1 ≤ key := P.k1
  have k6 : key ≤ 6 := P.k6
  have k9 : key ≤ 2147483647 := by omega
  have q0 : 0 ≤ seq := P.q0
  have q1 : seq < 1000000000 := P.q1
  have f0 : 0 ≤ fd := P.f0
  have f1 : fd < R := P.f1
  have g0 : 0 ≤ fl := P.g0
  have n0 : 0 ≤ sn := P.n0
  have n1 : sn < 18446744073709551616 := P.n1
  have hr := right_TR t1 t4 r1 r8
  have l2 : (2 : Int) < (W.length : Int) := by omega
  have w2 := (P.hw 2).1
  have w2' := (P.hw 2).2
  have ew1 : IntKind.u64.wrap (seq + 1) = seq + 1 := wu64 (by omega) (by omega)
  have ew2 : IntKind.u64.wrap (seq + 2) = seq + 2 := wu64 (by omega) (by omega)
  have ewf : IntKind.i64.wrap (fd + 1) = fd + 1 := wi64 (by omega) (by omega)
  have hX := hXTd
  obtain ⟨p, hp, hpl⟩ := P.pe (by show 4 ≤ 6; omega) (by show 6 ≤ 6; omega)
  have hpl : pl = (p : Int) := hpl
  subst hpl
  have en := ent_at (R := R) hp
  have cn := ctl_at (R := R) hp
  have el := eP_lt' hl hp
  have cl_ := cP_lt' hl hp
  have c0 := (P.hw (cP T p)).1
  have c1 := (P.hw (cP T p)).2
  have k9 : key ≤ 2147483647 := by omega
  refine gives_x hX (fn := Tryz.f131) rfl rfl rfl rfl fun ρ w => ?_
  dsimp only [drC]
  refine sx hX [] 4000 rfl (by (simp [-List.getD_eq_getElem?_getD, -List.length_eq_zero_iff, conjP])) ?_
  refine sx hX [.T] 4000 rfl (by (simp [-List.getD_eq_getElem?_getD, -List.length_eq_zero_iff, conjP, hr] <;> (first | omega | ((repeat' (refine And.intro ?_ ?_)) <;> (first | omega | exact decide_eq_false (by omega) | exact decide_eq_true (by omega)))))) ?_
  refine sx hX [.F] 4000 rfl (by (simp [-List.getD_eq_getElem?_getD, -List.length_eq_zero_iff, conjP, addOP])) ?_
  refine sx hX [.F] 4000 rfl (by (simp [-List.getD_eq_getElem?_getD, -List.length_eq_zero_iff, conjP, addOP])) ?_
  refine sx hX [.F] 4000 rfl (by (simp [-List.getD_eq_getElem?_getD, -List.length_eq_zero_iff, conjP, addOP])) ?_
  refine sx hX [.F] 4000 rfl (by (simp [-List.getD_eq_getElem?_getD, -List.length_eq_zero_iff, conjP, addOP])) ?_
  refine sx hX [.F] 4000 rfl (by (simp [-List.getD_eq_getElem?_getD, -List.length_eq_zero_iff, conjP, addOP])) ?_
  refine sx hX [.T] 4000 rfl (by (simp [-List.getD_eq_getElem?_getD, -List.length_eq_zero_iff, conjP, addOP])) ?_
  refine sx hX [.T] 4000 rfl (by (simp [-List.getD_eq_getElem?_getD, -List.length_eq_zero_iff, conjP, s0, k1, en, el, k9] <;> (first | omega | ((repeat' (refine And.intro ?_ ?_)) <;> (first | omega | exact decide_eq_false (by omega) | exact decide_eq_true (by omega)))))) ?_
  (try simp only [en, cn, Int.toNat_natCast]; refine ss_end hX [0, 1, 2] rfl rfl trivial rfl rfl rfl rfl ?hv ?hh ?hk ?ho; (case hv => exact clD); (case hh => exact clD); (case hk => exact clD); (case ho => exact clD))
set_option maxHeartbeats 4000000 in
theorem d4rn (P : TPre T R start ⟨true, lg, key, 4, seq, i, fd, hd, tm, 0, pl, sn, fl, bk, ep, tp, tl⟩ W st) (gb : buW (W.getD (cP T pl.toNat) 0) = false) : Dtp T R start ⟨true, lg, key, 4, seq, i, fd, hd, tm, 0, pl, sn, fl, bk, ep, tp, tl⟩ W st kd wd vl ch ⟨⟨true, lg, key, 5, seq, i, fd, hd, tm, 0, pl, (W.getD (cP T pl.toNat) 0), fl, bk, ep, tp, tl⟩, W, 1, (cP T pl.toNat : Int), W.getD (cP T pl.toNat) 0, false⟩ pl pl := by
  have t1 := P.t1
  have t4 := P.t4
  have r1 := P.r1
  have r8 := P.r8
  have hst : startV (T : Int) 4 1 4 4 1 6 0 R key = (start : Int) := P.hst
  have hl := P.hl
  have s0 := P.s0
  have s1 := P.s1
  have k1 : 1 ≤ key := P.k1
  have k6 : key ≤ 6 := P.k6
  have k9 : key ≤ 2147483647 := by omega
  have q0 : 0 ≤ seq := P.q0
  have q1 : seq < 1000000000 := P.q1
  have f0 : 0 ≤ fd := P.f0
  have f1 : fd < R := P.f1
  have g0 : 0 ≤ fl := P.g0
  have n0 : 0 ≤ sn := P.n0
  have n1 : sn < 18446744073709551616 := P.n1
  have hr := right_TR t1 t4 r1 r8
  have l2 : (2 : Int) < (W.length : Int) := by omega
  have w2 := (P.hw 2).1
  have w2' := (P.hw 2).2
  have ew1 : IntKind.u64.wrap (seq + 1) = seq + 1 := wu64 (by omega) (by omega)
  have ew2 : IntKind.u64.wrap (seq + 2) = seq + 2 := wu64 (by omega) (by omega)
  have ewf : IntKind.i64.wrap (fd + 1) = fd + 1 := wi64 (by omega) (by omega)
  have hX := hXTd
  obtain ⟨p, hp, hpl⟩ := P.pe (by show 4 ≤ 4; omega) (by show 4 ≤ 6; omega)
  have hpl : pl = (p : Int) := hpl
  subst hpl
  have en := ent_at (R := R) hp
  have cn := ctl_at (R := R) hp
  have el := eP_lt' hl hp
  have cl_ := cP_lt' hl hp
  have c0 := (P.hw (cP T p)).1
  have c1 := (P.hw (cP T p)).2
  rw [Int.toNat_natCast] at gb
  refine gives_x hX (fn := Tryz.f131) rfl rfl rfl rfl fun ρ w => ?_
  dsimp only [drC]
  refine sx hX [] 4000 rfl (by (simp [-List.getD_eq_getElem?_getD, -List.length_eq_zero_iff, conjP])) ?_
  refine sx hX [.T] 4000 rfl (by (simp [-List.getD_eq_getElem?_getD, -List.length_eq_zero_iff, conjP, hr] <;> (first | omega | ((repeat' (refine And.intro ?_ ?_)) <;> (first | omega | exact decide_eq_false (by omega) | exact decide_eq_true (by omega)))))) ?_
  refine sx hX [.F] 4000 rfl (by (simp [-List.getD_eq_getElem?_getD, -List.length_eq_zero_iff, conjP, addOP])) ?_
  refine sx hX [.F] 4000 rfl (by (simp [-List.getD_eq_getElem?_getD, -List.length_eq_zero_iff, conjP, addOP])) ?_
  refine sx hX [.F] 4000 rfl (by (simp [-List.getD_eq_getElem?_getD, -List.length_eq_zero_iff, conjP, addOP])) ?_
  refine sx hX [.T] 4000 rfl (by (simp [-List.getD_eq_getElem?_getD, -List.length_eq_zero_iff, conjP, s0, cn, cl_] <;> (first | omega | ((repeat' (refine And.intro ?_ ?_)) <;> (first | omega | exact decide_eq_false (by omega) | exact decide_eq_true (by omega)))))) ?_
  refine sx hX [.T] 4000 rfl (by (simp [-List.getD_eq_getElem?_getD, -List.length_eq_zero_iff, conjP, cn, c0, c1, Int.toNat_natCast])) ?_
  refine sx hX [.F] 4000 rfl (by (simp [-List.getD_eq_getElem?_getD, -List.length_eq_zero_iff, conjP, addOP, cn, Int.toNat_natCast, gb])) ?_
  (try simp only [en, cn, Int.toNat_natCast]; refine ss_end hX [0, 1, 2] rfl rfl trivial rfl rfl rfl rfl ?hv ?hh ?hk ?ho; (case hv => exact clD); (case hh => exact clD); (case hk => exact clD); (case ho => exact clD))
set_option maxHeartbeats 4000000 in
theorem d4rl (P : TPre T R start ⟨true, lg, key, 4, seq, i, fd, hd, tm, 0, pl, sn, fl, bk, ep, tp, tl⟩ W st) (gb : buW (W.getD (cP T pl.toNat) 0) = true) (g2 : fl + 1 = R) : Dtp T R start ⟨true, lg, key, 4, seq, i, fd, hd, tm, 0, pl, sn, fl, bk, ep, tp, tl⟩ W st kd wd vl ch ⟨⟨true, lg, key, 7, seq, i, fd, hd, tm, 17, pl, (W.getD (cP T pl.toNat) 0), (fl + 1), bk, ep, tp, tl⟩, W, 1, (cP T pl.toNat : Int), W.getD (cP T pl.toNat) 0, false⟩ pl pl := by
  have t1 := P.t1
  have t4 := P.t4
  have r1 := P.r1
  have r8 := P.r8
  have hst : startV (T : Int) 4 1 4 4 1 6 0 R key = (start : Int) := P.hst
  have hl := P.hl
  have s0 := P.s0
  have s1 := P.s1
  have k1 : 1 ≤ key := P.k1
  have k6 : key ≤ 6 := P.k6
  have k9 : key ≤ 2147483647 := by omega
  have q0 : 0 ≤ seq := P.q0
  have q1 : seq < 1000000000 := P.q1
  have f0 : 0 ≤ fd := P.f0
  have f1 : fd < R := P.f1
  have g0 : 0 ≤ fl := P.g0
  have n0 : 0 ≤ sn := P.n0
  have n1 : sn < 18446744073709551616 := P.n1
  have hr := right_TR t1 t4 r1 r8
  have l2 : (2 : Int) < (W.length : Int) := by omega
  have w2 := (P.hw 2).1
  have w2' := (P.hw 2).2
  have ew1 : IntKind.u64.wrap (seq + 1) = seq + 1 := wu64 (by omega) (by omega)
  have ew2 : IntKind.u64.wrap (seq + 2) = seq + 2 := wu64 (by omega) (by omega)
  have ewf : IntKind.i64.wrap (fd + 1) = fd + 1 := wi64 (by omega) (by omega)
  have hX := hXTd
  obtain ⟨p, hp, hpl⟩ := P.pe (by show 4 ≤ 4; omega) (by show 4 ≤ 6; omega)
  have hpl : pl = (p : Int) := hpl
  subst hpl
  have en := ent_at (R := R) hp
  have cn := ctl_at (R := R) hp
  have el := eP_lt' hl hp
  have cl_ := cP_lt' hl hp
  have c0 := (P.hw (cP T p)).1
  have c1 := (P.hw (cP T p)).2
  rw [Int.toNat_natCast] at gb
  have g1 : fl < R := P.g1 (by show 4 ≤ 6; omega)
  have ewg : IntKind.i64.wrap (fl + 1) = fl + 1 := wi64 (by omega) (by omega)
  have ewR : IntKind.i64.wrap (fl + 1) = R := by rw [ewg, g2]
  refine gives_x hX (fn := Tryz.f131) rfl rfl rfl rfl fun ρ w => ?_
  dsimp only [drC]
  refine sx hX [] 4000 rfl (by (simp [-List.getD_eq_getElem?_getD, -List.length_eq_zero_iff, conjP])) ?_
  refine sx hX [.T] 4000 rfl (by (simp [-List.getD_eq_getElem?_getD, -List.length_eq_zero_iff, conjP, hr] <;> (first | omega | ((repeat' (refine And.intro ?_ ?_)) <;> (first | omega | exact decide_eq_false (by omega) | exact decide_eq_true (by omega)))))) ?_
  refine sx hX [.F] 4000 rfl (by (simp [-List.getD_eq_getElem?_getD, -List.length_eq_zero_iff, conjP, addOP])) ?_
  refine sx hX [.F] 4000 rfl (by (simp [-List.getD_eq_getElem?_getD, -List.length_eq_zero_iff, conjP, addOP])) ?_
  refine sx hX [.F] 4000 rfl (by (simp [-List.getD_eq_getElem?_getD, -List.length_eq_zero_iff, conjP, addOP])) ?_
  refine sx hX [.T] 4000 rfl (by (simp [-List.getD_eq_getElem?_getD, -List.length_eq_zero_iff, conjP, s0, cn, cl_] <;> (first | omega | ((repeat' (refine And.intro ?_ ?_)) <;> (first | omega | exact decide_eq_false (by omega) | exact decide_eq_true (by omega)))))) ?_
  refine sx hX [.T] 4000 rfl (by (simp [-List.getD_eq_getElem?_getD, -List.length_eq_zero_iff, conjP, cn, c0, c1, Int.toNat_natCast])) ?_
  refine sx hX [.T] 4000 rfl (by (simp [-List.getD_eq_getElem?_getD, -List.length_eq_zero_iff, conjP, addOP, cn, Int.toNat_natCast, gb])) ?_
  refine sx hX [.T] 4000 rfl (by (simp [-List.getD_eq_getElem?_getD, -List.length_eq_zero_iff, conjP, addOP, ewR])) ?_
  (try simp only [ewg, en, cn, Int.toNat_natCast]; refine ss_end hX [0, 1, 2] rfl rfl trivial rfl rfl rfl rfl ?hv ?hh ?hk ?ho; (case hv => exact clD); (case hh => exact clD); (case hk => exact clD); (case ho => exact clD))
set_option maxHeartbeats 4000000 in
theorem d4rf (P : TPre T R start ⟨true, lg, key, 4, seq, i, fd, hd, tm, 0, pl, sn, fl, bk, ep, tp, tl⟩ W st) (gb : buW (W.getD (cP T pl.toNat) 0) = true) (g2 : ¬ fl + 1 = R) : Dtp T R start ⟨true, lg, key, 4, seq, i, fd, hd, tm, 0, pl, sn, fl, bk, ep, tp, tl⟩ W st kd wd vl ch ⟨⟨true, lg, key, 4, seq, i, fd, hd, tm, 0, pl, (W.getD (cP T pl.toNat) 0), (fl + 1), bk, ep, tp, tl⟩, W, 1, (cP T pl.toNat : Int), W.getD (cP T pl.toNat) 0, false⟩ pl pl := by
  have t1 := P.t1
  have t4 := P.t4
  have r1 := P.r1
  have r8 := P.r8
  have hst : startV (T : Int) 4 1 4 4 1 6 0 R key = (start : Int) := P.hst
  have hl := P.hl
  have s0 := P.s0
  have s1 := P.s1
  have k1 : 1 ≤ key := P.k1
  have k6 : key ≤ 6 := P.k6
  have k9 : key ≤ 2147483647 := by omega
  have q0 : 0 ≤ seq := P.q0
  have q1 : seq < 1000000000 := P.q1
  have f0 : 0 ≤ fd := P.f0
  have f1 : fd < R := P.f1
  have g0 : 0 ≤ fl := P.g0
  have n0 : 0 ≤ sn := P.n0
  have n1 : sn < 18446744073709551616 := P.n1
  have hr := right_TR t1 t4 r1 r8
  have l2 : (2 : Int) < (W.length : Int) := by omega
  have w2 := (P.hw 2).1
  have w2' := (P.hw 2).2
  have ew1 : IntKind.u64.wrap (seq + 1) = seq + 1 := wu64 (by omega) (by omega)
  have ew2 : IntKind.u64.wrap (seq + 2) = seq + 2 := wu64 (by omega) (by omega)
  have ewf : IntKind.i64.wrap (fd + 1) = fd + 1 := wi64 (by omega) (by omega)
  have hX := hXTd
  obtain ⟨p, hp, hpl⟩ := P.pe (by show 4 ≤ 4; omega) (by show 4 ≤ 6; omega)
  have hpl : pl = (p : Int) := hpl
  subst hpl
  have en := ent_at (R := R) hp
  have cn := ctl_at (R := R) hp
  have el := eP_lt' hl hp
  have cl_ := cP_lt' hl hp
  have c0 := (P.hw (cP T p)).1
  have c1 := (P.hw (cP T p)).2
  rw [Int.toNat_natCast] at gb
  have g1 : fl < R := P.g1 (by show 4 ≤ 6; omega)
  have ewg : IntKind.i64.wrap (fl + 1) = fl + 1 := wi64 (by omega) (by omega)
  refine gives_x hX (fn := Tryz.f131) rfl rfl rfl rfl fun ρ w => ?_
  dsimp only [drC]
  refine sx hX [] 4000 rfl (by (simp [-List.getD_eq_getElem?_getD, -List.length_eq_zero_iff, conjP])) ?_
  refine sx hX [.T] 4000 rfl (by (simp [-List.getD_eq_getElem?_getD, -List.length_eq_zero_iff, conjP, hr] <;> (first | omega | ((repeat' (refine And.intro ?_ ?_)) <;> (first | omega | exact decide_eq_false (by omega) | exact decide_eq_true (by omega)))))) ?_
  refine sx hX [.F] 4000 rfl (by (simp [-List.getD_eq_getElem?_getD, -List.length_eq_zero_iff, conjP, addOP])) ?_
  refine sx hX [.F] 4000 rfl (by (simp [-List.getD_eq_getElem?_getD, -List.length_eq_zero_iff, conjP, addOP])) ?_
  refine sx hX [.F] 4000 rfl (by (simp [-List.getD_eq_getElem?_getD, -List.length_eq_zero_iff, conjP, addOP])) ?_
  refine sx hX [.T] 4000 rfl (by (simp [-List.getD_eq_getElem?_getD, -List.length_eq_zero_iff, conjP, s0, cn, cl_] <;> (first | omega | ((repeat' (refine And.intro ?_ ?_)) <;> (first | omega | exact decide_eq_false (by omega) | exact decide_eq_true (by omega)))))) ?_
  refine sx hX [.T] 4000 rfl (by (simp [-List.getD_eq_getElem?_getD, -List.length_eq_zero_iff, conjP, cn, c0, c1, Int.toNat_natCast])) ?_
  refine sx hX [.T] 4000 rfl (by (simp [-List.getD_eq_getElem?_getD, -List.length_eq_zero_iff, conjP, addOP, cn, Int.toNat_natCast, gb])) ?_
  refine sx hX [.F] 4000 rfl (by (simp [-List.getD_eq_getElem?_getD, -List.length_eq_zero_iff, conjP, addOP, ewg, g2])) ?_
  (try simp only [ewg, en, cn, Int.toNat_natCast]; refine ss_end hX [0, 1, 2] rfl rfl trivial rfl rfl rfl rfl ?hv ?hh ?hk ?ho; (case hv => exact clD); (case hh => exact clD); (case hk => exact clD); (case ho => exact clD))
set_option maxHeartbeats 4000000 in
theorem d5rh (P : TPre T R start ⟨true, lg, key, 5, seq, i, fd, hd, tm, 0, pl, sn, fl, bk, ep, tp, tl⟩ W st) (gs : W.getD (cP T pl.toNat) 0 = sn) : Dtp T R start ⟨true, lg, key, 5, seq, i, fd, hd, tm, 0, pl, sn, fl, bk, ep, tp, tl⟩ W st kd wd vl ch ⟨⟨true, lg, key, 6, seq, i, fd, hd, (st + 1), 0, pl, sn, fl, (blW sn), ep, tp, tl⟩, W.set (cP T pl.toNat) (goneW sn), 3, (cP T pl.toNat : Int), goneW sn, true⟩ pl pl := by
  have t1 := P.t1
  have t4 := P.t4
  have r1 := P.r1
  have r8 := P.r8
  have hst : startV (T : Int) 4 1 4 4 1 6 0 R key = (start : Int) := P.hst
  have hl := P.hl
  have s0 := P.s0
  have s1 := P.s1
  have k1 : 1 ≤ key := P.k1
  have k6 : key ≤ 6 := P.k6
  have k9 : key ≤ 2147483647 := by omega
  have q0 : 0 ≤ seq := P.q0
  have q1 : seq < 1000000000 := P.q1
  have f0 : 0 ≤ fd := P.f0
  have f1 : fd < R := P.f1
  have g0 : 0 ≤ fl := P.g0
  have n0 : 0 ≤ sn := P.n0
  have n1 : sn < 18446744073709551616 := P.n1
  have hr := right_TR t1 t4 r1 r8
  have l2 : (2 : Int) < (W.length : Int) := by omega
  have w2 := (P.hw 2).1
  have w2' := (P.hw 2).2
  have ew1 : IntKind.u64.wrap (seq + 1) = seq + 1 := wu64 (by omega) (by omega)
  have ew2 : IntKind.u64.wrap (seq + 2) = seq + 2 := wu64 (by omega) (by omega)
  have ewf : IntKind.i64.wrap (fd + 1) = fd + 1 := wi64 (by omega) (by omega)
  have hX := hXTd
  obtain ⟨p, hp, hpl⟩ := P.pe (by show 4 ≤ 5; omega) (by show 5 ≤ 6; omega)
  have hpl : pl = (p : Int) := hpl
  subst hpl
  have en := ent_at (R := R) hp
  have cn := ctl_at (R := R) hp
  have el := eP_lt' hl hp
  have cl_ := cP_lt' hl hp
  have c0 := (P.hw (cP T p)).1
  have c1 := (P.hw (cP T p)).2
  rw [Int.toNat_natCast] at gs
  have sw1 : swW W ((cP T p : Nat) : Int) sn (goneW sn) = W.set (cP T p) (goneW sn) := by unfold swW; rw [Int.toNat_natCast, if_pos gs]
  refine gives_x hX (fn := Tryz.f131) rfl rfl rfl rfl fun ρ w => ?_
  dsimp only [drC]
  refine sx hX [] 4000 rfl (by (simp [-List.getD_eq_getElem?_getD, -List.length_eq_zero_iff, conjP])) ?_
  refine sx hX [.T] 4000 rfl (by (simp [-List.getD_eq_getElem?_getD, -List.length_eq_zero_iff, conjP, hr] <;> (first | omega | ((repeat' (refine And.intro ?_ ?_)) <;> (first | omega | exact decide_eq_false (by omega) | exact decide_eq_true (by omega)))))) ?_
  refine sx hX [.F] 4000 rfl (by (simp [-List.getD_eq_getElem?_getD, -List.length_eq_zero_iff, conjP, addOP])) ?_
  refine sx hX [.F] 4000 rfl (by (simp [-List.getD_eq_getElem?_getD, -List.length_eq_zero_iff, conjP, addOP])) ?_
  refine sx hX [.F] 4000 rfl (by (simp [-List.getD_eq_getElem?_getD, -List.length_eq_zero_iff, conjP, addOP])) ?_
  refine sx hX [.F] 4000 rfl (by (simp [-List.getD_eq_getElem?_getD, -List.length_eq_zero_iff, conjP, addOP])) ?_
  refine sx hX [.T] 4000 rfl (by (simp [-List.getD_eq_getElem?_getD, -List.length_eq_zero_iff, conjP, addOP])) ?_
  refine sx hX [.F] 4000 rfl (by (simp [-List.getD_eq_getElem?_getD, -List.length_eq_zero_iff, conjP, getH, HE.so, s0, n0, n1, cn, cl_] <;> (first | omega | ((repeat' (refine And.intro ?_ ?_)) <;> (first | omega | exact decide_eq_false (by omega) | exact decide_eq_true (by omega)))))) ?_
  refine sx hX [.F] 4000 rfl (by (simp [-List.getD_eq_getElem?_getD, -List.length_eq_zero_iff, conjP, n0, n1, cn, Int.toNat_natCast, gs])) ?_
  (try simp only [sw1, gs, if_true, decide_true, en, cn, Int.toNat_natCast]; refine ss_end hX [0, 1, 2] rfl rfl trivial rfl rfl rfl rfl ?hv ?hh ?hk ?ho; (case hv => exact clD); (case hh => exact clD); (case hk => exact clD); (case ho => exact clD))
set_option maxHeartbeats 4000000 in
theorem d5rl (P : TPre T R start ⟨true, lg, key, 5, seq, i, fd, hd, tm, 0, pl, sn, fl, bk, ep, tp, tl⟩ W st) (gs : ¬ W.getD (cP T pl.toNat) 0 = sn) (g2 : fl + 1 = R) : Dtp T R start ⟨true, lg, key, 5, seq, i, fd, hd, tm, 0, pl, sn, fl, bk, ep, tp, tl⟩ W st kd wd vl ch ⟨⟨true, lg, key, 7, seq, i, fd, hd, tm, 17, pl, sn, (fl + 1), bk, ep, tp, tl⟩, W, 3, (cP T pl.toNat : Int), W.getD (cP T pl.toNat) 0, false⟩ pl pl := by
  have t1 := P.t1
  have t4 := P.t4
  have r1 := P.r1
  have r8 := P.r8
  have hst : startV (T : Int) 4 1 4 4 1 6 0 R key = (start : Int) := P.hst
  have hl := P.hl
  have s0 := P.s0
  have s1 := P.s1
  have k1 : 1 ≤ key := P.k1
  have k6 : key ≤ 6 := P.k6
  have k9 : key ≤ 2147483647 := by omega
  have q0 : 0 ≤ seq := P.q0
  have q1 : seq < 1000000000 := P.q1
  have f0 : 0 ≤ fd := P.f0
  have f1 : fd < R := P.f1
  have g0 : 0 ≤ fl := P.g0
  have n0 : 0 ≤ sn := P.n0
  have n1 : sn < 18446744073709551616 := P.n1
  have hr := right_TR t1 t4 r1 r8
  have l2 : (2 : Int) < (W.length : Int) := by omega
  have w2 := (P.hw 2).1
  have w2' := (P.hw 2).2
  have ew1 : IntKind.u64.wrap (seq + 1) = seq + 1 := wu64 (by omega) (by omega)
  have ew2 : IntKind.u64.wrap (seq + 2) = seq + 2 := wu64 (by omega) (by omega)
  have ewf : IntKind.i64.wrap (fd + 1) = fd + 1 := wi64 (by omega) (by omega)
  have hX := hXTd
  obtain ⟨p, hp, hpl⟩ := P.pe (by show 4 ≤ 5; omega) (by show 5 ≤ 6; omega)
  have hpl : pl = (p : Int) := hpl
  subst hpl
  have en := ent_at (R := R) hp
  have cn := ctl_at (R := R) hp
  have el := eP_lt' hl hp
  have cl_ := cP_lt' hl hp
  have c0 := (P.hw (cP T p)).1
  have c1 := (P.hw (cP T p)).2
  rw [Int.toNat_natCast] at gs
  have sw1 : swW W ((cP T p : Nat) : Int) sn (goneW sn) = W := by unfold swW; rw [Int.toNat_natCast, if_neg gs]
  have g1 : fl < R := P.g1 (by show 5 ≤ 6; omega)
  have ewg : IntKind.i64.wrap (fl + 1) = fl + 1 := wi64 (by omega) (by omega)
  have ewR : IntKind.i64.wrap (fl + 1) = R := by rw [ewg, g2]
  refine gives_x hX (fn := Tryz.f131) rfl rfl rfl rfl fun ρ w => ?_
  dsimp only [drC]
  refine sx hX [] 4000 rfl (by (simp [-List.getD_eq_getElem?_getD, -List.length_eq_zero_iff, conjP])) ?_
  refine sx hX [.T] 4000 rfl (by (simp [-List.getD_eq_getElem?_getD, -List.length_eq_zero_iff, conjP, hr] <;> (first | omega | ((repeat' (refine And.intro ?_ ?_)) <;> (first | omega | exact decide_eq_false (by omega) | exact decide_eq_true (by omega)))))) ?_
  refine sx hX [.F] 4000 rfl (by (simp [-List.getD_eq_getElem?_getD, -List.length_eq_zero_iff, conjP, addOP])) ?_
  refine sx hX [.F] 4000 rfl (by (simp [-List.getD_eq_getElem?_getD, -List.length_eq_zero_iff, conjP, addOP])) ?_
  refine sx hX [.F] 4000 rfl (by (simp [-List.getD_eq_getElem?_getD, -List.length_eq_zero_iff, conjP, addOP])) ?_
  refine sx hX [.F] 4000 rfl (by (simp [-List.getD_eq_getElem?_getD, -List.length_eq_zero_iff, conjP, addOP])) ?_
  refine sx hX [.T] 4000 rfl (by (simp [-List.getD_eq_getElem?_getD, -List.length_eq_zero_iff, conjP, addOP])) ?_
  refine sx hX [.F] 4000 rfl (by (simp [-List.getD_eq_getElem?_getD, -List.length_eq_zero_iff, conjP, getH, HE.so, s0, n0, n1, cn, cl_] <;> (first | omega | ((repeat' (refine And.intro ?_ ?_)) <;> (first | omega | exact decide_eq_false (by omega) | exact decide_eq_true (by omega)))))) ?_
  refine sx hX [.T] 4000 rfl (by (simp [-List.getD_eq_getElem?_getD, -List.length_eq_zero_iff, conjP, addOP, cn, Int.toNat_natCast, gs])) ?_
  refine sx hX [.T] 4000 rfl (by (simp [-List.getD_eq_getElem?_getD, -List.length_eq_zero_iff, conjP, addOP, ewR])) ?_
  (try simp only [sw1, gs, if_false, decide_false, ewg, en, cn, Int.toNat_natCast]; refine ss_end hX [0, 1, 2] rfl rfl trivial rfl rfl rfl rfl ?hv ?hh ?hk ?ho; (case hv => exact clD); (case hh => exact clD); (case hk => exact clD); (case ho => exact clD))
set_option maxHeartbeats 4000000 in
theorem d5rf (P : TPre T R start ⟨true, lg, key, 5, seq, i, fd, hd, tm, 0, pl, sn, fl, bk, ep, tp, tl⟩ W st) (gs : ¬ W.getD (cP T pl.toNat) 0 = sn) (g2 : ¬ fl + 1 = R) : Dtp T R start ⟨true, lg, key, 5, seq, i, fd, hd, tm, 0, pl, sn, fl, bk, ep, tp, tl⟩ W st kd wd vl ch ⟨⟨true, lg, key, 4, seq, i, fd, hd, tm, 0, pl, sn, (fl + 1), bk, ep, tp, tl⟩, W, 3, (cP T pl.toNat : Int), W.getD (cP T pl.toNat) 0, false⟩ pl pl := by
  have t1 := P.t1
  have t4 := P.t4
  have r1 := P.r1
  have r8 := P.r8
  have hst : startV (T : Int) 4 1 4 4 1 6 0 R key = (start : Int) := P.hst
  have hl := P.hl
  have s0 := P.s0
  have s1 := P.s1
  have k1 : 1 ≤ key := P.k1
  have k6 : key ≤ 6 := P.k6
  have k9 : key ≤ 2147483647 := by omega
  have q0 : 0 ≤ seq := P.q0
  have q1 : seq < 1000000000 := P.q1
  have f0 : 0 ≤ fd := P.f0
  have f1 : fd < R := P.f1
  have g0 : 0 ≤ fl := P.g0
  have n0 : 0 ≤ sn := P.n0
  have n1 : sn < 18446744073709551616 := P.n1
  have hr := right_TR t1 t4 r1 r8
  have l2 : (2 : Int) < (W.length : Int) := by omega
  have w2 := (P.hw 2).1
  have w2' := (P.hw 2).2
  have ew1 : IntKind.u64.wrap (seq + 1) = seq + 1 := wu64 (by omega) (by omega)
  have ew2 : IntKind.u64.wrap (seq + 2) = seq + 2 := wu64 (by omega) (by omega)
  have ewf : IntKind.i64.wrap (fd + 1) = fd + 1 := wi64 (by omega) (by omega)
  have hX := hXTd
  obtain ⟨p, hp, hpl⟩ := P.pe (by show 4 ≤ 5; omega) (by show 5 ≤ 6; omega)
  have hpl : pl = (p : Int) := hpl
  subst hpl
  have en := ent_at (R := R) hp
  have cn := ctl_at (R := R) hp
  have el := eP_lt' hl hp
  have cl_ := cP_lt' hl hp
  have c0 := (P.hw (cP T p)).1
  have c1 := (P.hw (cP T p)).2
  rw [Int.toNat_natCast] at gs
  have sw1 : swW W ((cP T p : Nat) : Int) sn (goneW sn) = W := by unfold swW; rw [Int.toNat_natCast, if_neg gs]
  have g1 : fl < R := P.g1 (by show 5 ≤ 6; omega)
  have ewg : IntKind.i64.wrap (fl + 1) = fl + 1 := wi64 (by omega) (by omega)
  refine gives_x hX (fn := Tryz.f131) rfl rfl rfl rfl fun ρ w => ?_
  dsimp only [drC]
  refine sx hX [] 4000 rfl (by (simp [-List.getD_eq_getElem?_getD, -List.length_eq_zero_iff, conjP])) ?_
  refine sx hX [.T] 4000 rfl (by (simp [-List.getD_eq_getElem?_getD, -List.length_eq_zero_iff, conjP, hr] <;> (first | omega | ((repeat' (refine And.intro ?_ ?_)) <;> (first | omega | exact decide_eq_false (by omega) | exact decide_eq_true (by omega)))))) ?_
  refine sx hX [.F] 4000 rfl (by (simp [-List.getD_eq_getElem?_getD, -List.length_eq_zero_iff, conjP, addOP])) ?_
  refine sx hX [.F] 4000 rfl (by (simp [-List.getD_eq_getElem?_getD, -List.length_eq_zero_iff, conjP, addOP])) ?_
  refine sx hX [.F] 4000 rfl (by (simp [-List.getD_eq_getElem?_getD, -List.length_eq_zero_iff, conjP, addOP])) ?_
  refine sx hX [.F] 4000 rfl (by (simp [-List.getD_eq_getElem?_getD, -List.length_eq_zero_iff, conjP, addOP])) ?_
  refine sx hX [.T] 4000 rfl (by (simp [-List.getD_eq_getElem?_getD, -List.length_eq_zero_iff, conjP, addOP])) ?_
  refine sx hX [.F] 4000 rfl (by (simp [-List.getD_eq_getElem?_getD, -List.length_eq_zero_iff, conjP, getH, HE.so, s0, n0, n1, cn, cl_] <;> (first | omega | ((repeat' (refine And.intro ?_ ?_)) <;> (first | omega | exact decide_eq_false (by omega) | exact decide_eq_true (by omega)))))) ?_
  refine sx hX [.T] 4000 rfl (by (simp [-List.getD_eq_getElem?_getD, -List.length_eq_zero_iff, conjP, addOP, cn, Int.toNat_natCast, gs])) ?_
  refine sx hX [.F] 4000 rfl (by (simp [-List.getD_eq_getElem?_getD, -List.length_eq_zero_iff, conjP, addOP, ewg, g2])) ?_
  (try simp only [sw1, gs, if_false, decide_false, ewg, en, cn, Int.toNat_natCast]; refine ss_end hX [0, 1, 2] rfl rfl trivial rfl rfl rfl rfl ?hv ?hh ?hk ?ho; (case hv => exact clD); (case hh => exact clD); (case hk => exact clD); (case ho => exact clD))
set_option maxHeartbeats 4000000 in
theorem d6r (P : TPre T R start ⟨true, lg, key, 6, seq, i, fd, hd, tm, 0, pl, sn, fl, bk, ep, tp, tl⟩ W st)  : Dtp T R start ⟨true, lg, key, 6, seq, i, fd, hd, tm, 0, pl, sn, fl, bk, ep, tp, tl⟩ W st kd wd vl ch ⟨⟨true, lg, key, 7, seq, i, fd, hd, tm, 0, pl, sn, fl, bk, ep, tp, tl⟩, W.set (eP pl.toNat) 1, 2, (eP pl.toNat : Int), 1, true⟩ pl pl := by
  have t1 := P.t1
  have t4 := P.t4
  have r1 := P.r1
  have r8 := P.r8
  have hst : startV (T : Int) 4 1 4 4 1 6 0 R key = (start : Int) := P.hst
  have hl := P.hl
  have s0 := P.s0
  have s1 := P.s1
  have k1 : 1 ≤ key := P.k1
  have k6 : key ≤ 6 := P.k6
  have k9 : key ≤ 2147483647 := by omega
  have q0 : 0 ≤ seq := P.q0
  have q1 : seq < 1000000000 := P.q1
  have f0 : 0 ≤ fd := P.f0
  have f1 : fd < R := P.f1
  have g0 : 0 ≤ fl := P.g0
  have n0 : 0 ≤ sn := P.n0
  have n1 : sn < 18446744073709551616 := P.n1
  have hr := right_TR t1 t4 r1 r8
  have l2 : (2 : Int) < (W.length : Int) := by omega
  have w2 := (P.hw 2).1
  have w2' := (P.hw 2).2
  have ew1 : IntKind.u64.wrap (seq + 1) = seq + 1 := wu64 (by omega) (by omega)
  have ew2 : IntKind.u64.wrap (seq + 2) = seq + 2 := wu64 (by omega) (by omega)
  have ewf : IntKind.i64.wrap (fd + 1) = fd + 1 := wi64 (by omega) (by omega)
  have hX := hXTd
  obtain ⟨p, hp, hpl⟩ := P.pe (by show 4 ≤ 6; omega) (by show 6 ≤ 6; omega)
  have hpl : pl = (p : Int) := hpl
  subst hpl
  have en := ent_at (R := R) hp
  have cn := ctl_at (R := R) hp
  have el := eP_lt' hl hp
  have cl_ := cP_lt' hl hp
  have c0 := (P.hw (cP T p)).1
  have c1 := (P.hw (cP T p)).2
  refine gives_x hX (fn := Tryz.f131) rfl rfl rfl rfl fun ρ w => ?_
  dsimp only [drC]
  refine sx hX [] 4000 rfl (by (simp [-List.getD_eq_getElem?_getD, -List.length_eq_zero_iff, conjP])) ?_
  refine sx hX [.T] 4000 rfl (by (simp [-List.getD_eq_getElem?_getD, -List.length_eq_zero_iff, conjP, hr] <;> (first | omega | ((repeat' (refine And.intro ?_ ?_)) <;> (first | omega | exact decide_eq_false (by omega) | exact decide_eq_true (by omega)))))) ?_
  refine sx hX [.F] 4000 rfl (by (simp [-List.getD_eq_getElem?_getD, -List.length_eq_zero_iff, conjP, addOP])) ?_
  refine sx hX [.F] 4000 rfl (by (simp [-List.getD_eq_getElem?_getD, -List.length_eq_zero_iff, conjP, addOP])) ?_
  refine sx hX [.F] 4000 rfl (by (simp [-List.getD_eq_getElem?_getD, -List.length_eq_zero_iff, conjP, addOP])) ?_
  refine sx hX [.F] 4000 rfl (by (simp [-List.getD_eq_getElem?_getD, -List.length_eq_zero_iff, conjP, addOP])) ?_
  refine sx hX [.F] 4000 rfl (by (simp [-List.getD_eq_getElem?_getD, -List.length_eq_zero_iff, conjP, addOP])) ?_
  refine sx hX [.T] 4000 rfl (by (simp [-List.getD_eq_getElem?_getD, -List.length_eq_zero_iff, conjP, addOP])) ?_
  refine sx hX [.F] 4000 rfl (by (simp [-List.getD_eq_getElem?_getD, -List.length_eq_zero_iff, conjP, s0, en, el] <;> (first | omega | ((repeat' (refine And.intro ?_ ?_)) <;> (first | omega | exact decide_eq_false (by omega) | exact decide_eq_true (by omega)))))) ?_
  (try simp only [en, cn, Int.toNat_natCast]; refine ss_end hX [0, 1, 2] rfl rfl trivial rfl rfl rfl rfl ?hv ?hh ?hk ?ho; (case hv => exact clD); (case hh => exact clD); (case hk => exact clD); (case ho => exact clD))
set_option maxHeartbeats 4000000 in
theorem d3cft (P : TPre T R start ⟨false, lg, key, 3, seq, i, fd, hd, tm, 0, pl, sn, fl, bk, ep, tp, tl⟩ W st) (hk : isK (W.getD (eP (tPl T start i)) 0) = true) (hf : W.getD (eP (tPl T start i)) 0 / 4 = key) (ht : i + 1 = T) : Dtp T R start ⟨false, lg, key, 3, seq, i, fd, hd, tm, 0, pl, sn, fl, bk, ep, tp, tl⟩ W st kd wd vl ch ⟨⟨false, lg, key, 7, seq, (i + 1), fd, hd, (st + 1), 14, pl, sn, fl, bk, ep, tp, tl⟩, W, 1, (eP (tPl T start i) : Int), W.getD (eP (tPl T start i)) 0, false⟩ pl pl := by
  have t1 := P.t1
  have t4 := P.t4
  have r1 := P.r1
  have r8 := P.r8
  have hst : startV (T : Int) 4 1 4 4 1 6 0 R key = (start : Int) := P.hst
  have hl := P.hl
  have s0 := P.s0
  have s1 := P.s1
  have k1 : 1 ≤ key := P.k1
  have k6 : key ≤ 6 := P.k6
  have k9 : key ≤ 2147483647 := by omega
  have q0 : 0 ≤ seq := P.q0
  have q1 : seq < 1000000000 := P.q1
  have f0 : 0 ≤ fd := P.f0
  have f1 : fd < R := P.f1
  have g0 : 0 ≤ fl := P.g0
  have n0 : 0 ≤ sn := P.n0
  have n1 : sn < 18446744073709551616 := P.n1
  have hr := right_TR t1 t4 r1 r8
  have l2 : (2 : Int) < (W.length : Int) := by omega
  have w2 := (P.hw 2).1
  have w2' := (P.hw 2).2
  have ew1 : IntKind.u64.wrap (seq + 1) = seq + 1 := wu64 (by omega) (by omega)
  have ew2 : IntKind.u64.wrap (seq + 2) = seq + 2 := wu64 (by omega) (by omega)
  have ewf : IntKind.i64.wrap (fd + 1) = fd + 1 := wi64 (by omega) (by omega)
  have hX := hXTd
  have hs := P.hs
  have hi : i < T := P.it (by show 3 ≤ 3; omega)
  have hpl := pl_at hs hi t4
  have hpT : tPl T start i < T := tPl_lt t1 i
  generalize hp : tPl T start i = p at *
  have en := ent_at (R := R) hpT
  have e9 := eP_lt' hl hpT
  have c0 := (P.hw (eP p)).1
  have c1 := (P.hw (eP p)).2
  have ewi : IntKind.i64.wrap ((i : Int) + 1) = ((i + 1 : Nat) : Int) := by rw [wi64 (by omega) (by omega)]; omega
  have tz : ¬ (T : Int) = 0 := by omega
  have ky : kyW (W.getD (eP p) 0) = W.getD (eP p) 0 / 4 := by unfold kyW; rw [if_pos hk]
  have hz : ¬ W.getD (eP p) 0 = 0 := (isK_ne hk).1
  have hf' : kyW (W.getD (eP p) 0) = key := by rw [ky]; exact hf
  have ht' : IntKind.i64.wrap ((i : Int) + 1) = (T : Int) := by rw [ewi]; omega
  refine gives_x hX (fn := Tryz.f131) rfl rfl rfl rfl fun ρ w => ?_
  dsimp only [drC]
  refine sx hX [] 4000 rfl (by (simp [-List.getD_eq_getElem?_getD, -List.length_eq_zero_iff, conjP])) ?_
  refine sx hX [.F] 4000 rfl (by (simp [-List.getD_eq_getElem?_getD, -List.length_eq_zero_iff, conjP, addOP])) ?_
  refine sx hX [.F] 4000 rfl (by (simp [-List.getD_eq_getElem?_getD, -List.length_eq_zero_iff, conjP, addOP])) ?_
  refine sx hX [.F] 4000 rfl (by (simp [-List.getD_eq_getElem?_getD, -List.length_eq_zero_iff, conjP, addOP])) ?_
  refine sx hX [.T] 4000 rfl (by (simp [-List.getD_eq_getElem?_getD, -List.length_eq_zero_iff, conjP, getH, HE.so, hr, s0, hst, k1, k9, hpl, en, e9, c0, c1, Int.toNat_natCast] <;> (first | omega | ((repeat' (refine And.intro ?_ ?_)) <;> (first | omega | exact decide_eq_false (by omega) | exact decide_eq_true (by omega)))))) ?_
  refine sx hX [.F] 4000 rfl (by (simp [-List.getD_eq_getElem?_getD, -List.length_eq_zero_iff, conjP, addOP, hst, hpl, en, Int.toNat_natCast, hk])) ?_
  refine sx hX [.K, .T] 4000 rfl (by (simp [-List.getD_eq_getElem?_getD, -List.length_eq_zero_iff, conjP, hst, hpl, en, Int.toNat_natCast, hk])) ?_
  refine sx hX [.K, .T] 4000 rfl (by (simp [-List.getD_eq_getElem?_getD, -List.length_eq_zero_iff, conjP, hst, hpl, en, Int.toNat_natCast, hf'])) ?_
  refine sx hX [.F] 4000 rfl (by (simp [-List.getD_eq_getElem?_getD, -List.length_eq_zero_iff, conjP, addOP])) ?_
  refine sx hX [.T] 4000 rfl (by (simp [-List.getD_eq_getElem?_getD, -List.length_eq_zero_iff, conjP, addOP, hst, hpl, en, Int.toNat_natCast, hf'])) ?_
  refine sx hX [.T] 4000 rfl (by (simp [-List.getD_eq_getElem?_getD, -List.length_eq_zero_iff, conjP, addOP])) ?_
  ((try simp only [hst, hpl, en, ewi, Int.toNat_natCast]); refine ss_end hX [0, 1, 2] rfl rfl trivial rfl rfl rfl rfl ?hv ?hh ?hk ?ho; (case hv => exact clD); (case hh => exact clD); (case hk => exact clD); (case ho => exact clD))
set_option maxHeartbeats 4000000 in
theorem d3rft (P : TPre T R start ⟨true, lg, key, 3, seq, i, fd, hd, tm, 0, pl, sn, fl, bk, ep, tp, tl⟩ W st) (hk : isK (W.getD (eP (tPl T start i)) 0) = true) (hf : W.getD (eP (tPl T start i)) 0 / 4 = key) (ht : i + 1 = T) : Dtp T R start ⟨true, lg, key, 3, seq, i, fd, hd, tm, 0, pl, sn, fl, bk, ep, tp, tl⟩ W st kd wd vl ch ⟨⟨true, lg, key, 4, seq, (i + 1), fd, hd, tm, 0, ((tPl T start i : Nat) : Int), sn, fl, bk, ep, tp, tl⟩, W, 1, (eP (tPl T start i) : Int), W.getD (eP (tPl T start i)) 0, false⟩ (-1) ((tPl T start i : Nat) : Int) := by
  have t1 := P.t1
  have t4 := P.t4
  have r1 := P.r1
  have r8 := P.r8
  have hst : startV (T : Int) 4 1 4 4 1 6 0 R key = (start : Int) := P.hst
  have hl := P.hl
  have s0 := P.s0
  have s1 := P.s1
  have k1 : 1 ≤ key := P.k1
  have k6 : key ≤ 6 := P.k6
  have k9 : key ≤ 2147483647 := by omega
  have q0 : 0 ≤ seq := P.q0
  have q1 : seq < 1000000000 := P.q1
  have f0 : 0 ≤ fd := P.f0
  have f1 : fd < R := P.f1
  have g0 : 0 ≤ fl := P.g0
  have n0 : 0 ≤ sn := P.n0
  have n1 : sn < 18446744073709551616 := P.n1
  have hr := right_TR t1 t4 r1 r8
  have l2 : (2 : Int) < (W.length : Int) := by omega
  have w2 := (P.hw 2).1
  have w2' := (P.hw 2).2
  have ew1 : IntKind.u64.wrap (seq + 1) = seq + 1 := wu64 (by omega) (by omega)
  have ew2 : IntKind.u64.wrap (seq + 2) = seq + 2 := wu64 (by omega) (by omega)
  have ewf : IntKind.i64.wrap (fd + 1) = fd + 1 := wi64 (by omega) (by omega)
  have hX := hXTd
  have hs := P.hs
  have hi : i < T := P.it (by show 3 ≤ 3; omega)
  have hpl := pl_at hs hi t4
  have hpT : tPl T start i < T := tPl_lt t1 i
  generalize hp : tPl T start i = p at *
  have en := ent_at (R := R) hpT
  have e9 := eP_lt' hl hpT
  have c0 := (P.hw (eP p)).1
  have c1 := (P.hw (eP p)).2
  have ewi : IntKind.i64.wrap ((i : Int) + 1) = ((i + 1 : Nat) : Int) := by rw [wi64 (by omega) (by omega)]; omega
  have tz : ¬ (T : Int) = 0 := by omega
  have ky : kyW (W.getD (eP p) 0) = W.getD (eP p) 0 / 4 := by unfold kyW; rw [if_pos hk]
  have hz : ¬ W.getD (eP p) 0 = 0 := (isK_ne hk).1
  have hf' : kyW (W.getD (eP p) 0) = key := by rw [ky]; exact hf
  have ht' : IntKind.i64.wrap ((i : Int) + 1) = (T : Int) := by rw [ewi]; omega
  refine gives_x hX (fn := Tryz.f131) rfl rfl rfl rfl fun ρ w => ?_
  dsimp only [drC]
  refine sx hX [] 4000 rfl (by (simp [-List.getD_eq_getElem?_getD, -List.length_eq_zero_iff, conjP])) ?_
  refine sx hX [.F] 4000 rfl (by (simp [-List.getD_eq_getElem?_getD, -List.length_eq_zero_iff, conjP, addOP])) ?_
  refine sx hX [.F] 4000 rfl (by (simp [-List.getD_eq_getElem?_getD, -List.length_eq_zero_iff, conjP, addOP])) ?_
  refine sx hX [.F] 4000 rfl (by (simp [-List.getD_eq_getElem?_getD, -List.length_eq_zero_iff, conjP, addOP])) ?_
  refine sx hX [.T] 4000 rfl (by (simp [-List.getD_eq_getElem?_getD, -List.length_eq_zero_iff, conjP, getH, HE.so, hr, s0, hst, k1, k9, hpl, en, e9, c0, c1, Int.toNat_natCast] <;> (first | omega | ((repeat' (refine And.intro ?_ ?_)) <;> (first | omega | exact decide_eq_false (by omega) | exact decide_eq_true (by omega)))))) ?_
  refine sx hX [.F] 4000 rfl (by (simp [-List.getD_eq_getElem?_getD, -List.length_eq_zero_iff, conjP, addOP, hst, hpl, en, Int.toNat_natCast, hk])) ?_
  refine sx hX [.K, .T] 4000 rfl (by (simp [-List.getD_eq_getElem?_getD, -List.length_eq_zero_iff, conjP, hst, hpl, en, Int.toNat_natCast, hk])) ?_
  refine sx hX [.K, .T] 4000 rfl (by (simp [-List.getD_eq_getElem?_getD, -List.length_eq_zero_iff, conjP, hst, hpl, en, Int.toNat_natCast, hf'])) ?_
  refine sx hX [.T] 4000 rfl (by (simp [-List.getD_eq_getElem?_getD, -List.length_eq_zero_iff, conjP, addOP])) ?_
  refine sx hX [.F] 4000 rfl (by (simp [-List.getD_eq_getElem?_getD, -List.length_eq_zero_iff, conjP, addOP, hst, hpl, en, Int.toNat_natCast, hf'])) ?_
  ((try simp only [hst, hpl, en, ewi, Int.toNat_natCast]); refine ss_end hX [0, 1, 2] rfl rfl trivial rfl rfl rfl rfl ?hv ?hh ?hk ?ho; (case hv => exact clD); (case hh => exact clD); (case hk => exact clD); (case ho => exact clD))
set_option maxHeartbeats 4000000 in
theorem d3cfn (P : TPre T R start ⟨false, lg, key, 3, seq, i, fd, hd, tm, 0, pl, sn, fl, bk, ep, tp, tl⟩ W st) (hk : isK (W.getD (eP (tPl T start i)) 0) = true) (hf : W.getD (eP (tPl T start i)) 0 / 4 = key) (ht : ¬ i + 1 = T) : Dtp T R start ⟨false, lg, key, 3, seq, i, fd, hd, tm, 0, pl, sn, fl, bk, ep, tp, tl⟩ W st kd wd vl ch ⟨⟨false, lg, key, 7, seq, (i + 1), fd, hd, (st + 1), 14, pl, sn, fl, bk, ep, tp, tl⟩, W, 1, (eP (tPl T start i) : Int), W.getD (eP (tPl T start i)) 0, false⟩ pl pl := by
  have t1 := P.t1
  have t4 := P.t4
  have r1 := P.r1
  have r8 := P.r8
  have hst : startV (T : Int) 4 1 4 4 1 6 0 R key = (start : Int) := P.hst
  have hl := P.hl
  have s0 := P.s0
  have s1 := P.s1
  have k1 : 1 ≤ key := P.k1
  have k6 : key ≤ 6 := P.k6
  have k9 : key ≤ 2147483647 := by omega
  have q0 : 0 ≤ seq := P.q0
  have q1 : seq < 1000000000 := P.q1
  have f0 : 0 ≤ fd := P.f0
  have f1 : fd < R := P.f1
  have g0 : 0 ≤ fl := P.g0
  have n0 : 0 ≤ sn := P.n0
  have n1 : sn < 18446744073709551616 := P.n1
  have hr := right_TR t1 t4 r1 r8
  have l2 : (2 : Int) < (W.length : Int) := by omega
  have w2 := (P.hw 2).1
  have w2' := (P.hw 2).2
  have ew1 : IntKind.u64.wrap (seq + 1) = seq + 1 := wu64 (by omega) (by omega)
  have ew2 : IntKind.u64.wrap (seq + 2) = seq + 2 := wu64 (by omega) (by omega)
  have ewf : IntKind.i64.wrap (fd + 1) = fd + 1 := wi64 (by omega) (by omega)
  have hX := hXTd
  have hs := P.hs
  have hi : i < T := P.it (by show 3 ≤ 3; omega)
  have hpl := pl_at hs hi t4
  have hpT : tPl T start i < T := tPl_lt t1 i
  generalize hp : tPl T start i = p at *
  have en := ent_at (R := R) hpT
  have e9 := eP_lt' hl hpT
  have c0 := (P.hw (eP p)).1
  have c1 := (P.hw (eP p)).2
  have ewi : IntKind.i64.wrap ((i : Int) + 1) = ((i + 1 : Nat) : Int) := by rw [wi64 (by omega) (by omega)]; omega
  have tz : ¬ (T : Int) = 0 := by omega
  have ky : kyW (W.getD (eP p) 0) = W.getD (eP p) 0 / 4 := by unfold kyW; rw [if_pos hk]
  have hz : ¬ W.getD (eP p) 0 = 0 := (isK_ne hk).1
  have hf' : kyW (W.getD (eP p) 0) = key := by rw [ky]; exact hf
  have ht' : ¬ IntKind.i64.wrap ((i : Int) + 1) = (T : Int) := by rw [ewi]; omega
  refine gives_x hX (fn := Tryz.f131) rfl rfl rfl rfl fun ρ w => ?_
  dsimp only [drC]
  refine sx hX [] 4000 rfl (by (simp [-List.getD_eq_getElem?_getD, -List.length_eq_zero_iff, conjP])) ?_
  refine sx hX [.F] 4000 rfl (by (simp [-List.getD_eq_getElem?_getD, -List.length_eq_zero_iff, conjP, addOP])) ?_
  refine sx hX [.F] 4000 rfl (by (simp [-List.getD_eq_getElem?_getD, -List.length_eq_zero_iff, conjP, addOP])) ?_
  refine sx hX [.F] 4000 rfl (by (simp [-List.getD_eq_getElem?_getD, -List.length_eq_zero_iff, conjP, addOP])) ?_
  refine sx hX [.T] 4000 rfl (by (simp [-List.getD_eq_getElem?_getD, -List.length_eq_zero_iff, conjP, getH, HE.so, hr, s0, hst, k1, k9, hpl, en, e9, c0, c1, Int.toNat_natCast] <;> (first | omega | ((repeat' (refine And.intro ?_ ?_)) <;> (first | omega | exact decide_eq_false (by omega) | exact decide_eq_true (by omega)))))) ?_
  refine sx hX [.F] 4000 rfl (by (simp [-List.getD_eq_getElem?_getD, -List.length_eq_zero_iff, conjP, addOP, hst, hpl, en, Int.toNat_natCast, hk])) ?_
  refine sx hX [.K, .T] 4000 rfl (by (simp [-List.getD_eq_getElem?_getD, -List.length_eq_zero_iff, conjP, hst, hpl, en, Int.toNat_natCast, hk])) ?_
  refine sx hX [.K, .T] 4000 rfl (by (simp [-List.getD_eq_getElem?_getD, -List.length_eq_zero_iff, conjP, hst, hpl, en, Int.toNat_natCast, hf'])) ?_
  refine sx hX [.F] 4000 rfl (by (simp [-List.getD_eq_getElem?_getD, -List.length_eq_zero_iff, conjP, addOP])) ?_
  refine sx hX [.T] 4000 rfl (by (simp [-List.getD_eq_getElem?_getD, -List.length_eq_zero_iff, conjP, addOP, hst, hpl, en, Int.toNat_natCast, hf'])) ?_
  refine sx hX [.T] 4000 rfl (by (simp [-List.getD_eq_getElem?_getD, -List.length_eq_zero_iff, conjP, addOP])) ?_
  ((try simp only [hst, hpl, en, ewi, Int.toNat_natCast]); refine ss_end hX [0, 1, 2] rfl rfl trivial rfl rfl rfl rfl ?hv ?hh ?hk ?ho; (case hv => exact clD); (case hh => exact clD); (case hk => exact clD); (case ho => exact clD))
set_option maxHeartbeats 4000000 in
theorem d3rfn (P : TPre T R start ⟨true, lg, key, 3, seq, i, fd, hd, tm, 0, pl, sn, fl, bk, ep, tp, tl⟩ W st) (hk : isK (W.getD (eP (tPl T start i)) 0) = true) (hf : W.getD (eP (tPl T start i)) 0 / 4 = key) (ht : ¬ i + 1 = T) : Dtp T R start ⟨true, lg, key, 3, seq, i, fd, hd, tm, 0, pl, sn, fl, bk, ep, tp, tl⟩ W st kd wd vl ch ⟨⟨true, lg, key, 4, seq, (i + 1), fd, hd, tm, 0, ((tPl T start i : Nat) : Int), sn, fl, bk, ep, tp, tl⟩, W, 1, (eP (tPl T start i) : Int), W.getD (eP (tPl T start i)) 0, false⟩ (-1) ((tPl T start i : Nat) : Int) := by
  have t1 := P.t1
  have t4 := P.t4
  have r1 := P.r1
  have r8 := P.r8
  have hst : startV (T : Int) 4 1 4 4 1 6 0 R key = (start : Int) := P.hst
  have hl := P.hl
  have s0 := P.s0
  have s1 := P.s1
  have k1 : 1 ≤ key := P.k1
  have k6 : key ≤ 6 := P.k6
  have k9 : key ≤ 2147483647 := by omega
  have q0 : 0 ≤ seq := P.q0
  have q1 : seq < 1000000000 := P.q1
  have f0 : 0 ≤ fd := P.f0
  have f1 : fd < R := P.f1
  have g0 : 0 ≤ fl := P.g0
  have n0 : 0 ≤ sn := P.n0
  have n1 : sn < 18446744073709551616 := P.n1
  have hr := right_TR t1 t4 r1 r8
  have l2 : (2 : Int) < (W.length : Int) := by omega
  have w2 := (P.hw 2).1
  have w2' := (P.hw 2).2
  have ew1 : IntKind.u64.wrap (seq + 1) = seq + 1 := wu64 (by omega) (by omega)
  have ew2 : IntKind.u64.wrap (seq + 2) = seq + 2 := wu64 (by omega) (by omega)
  have ewf : IntKind.i64.wrap (fd + 1) = fd + 1 := wi64 (by omega) (by omega)
  have hX := hXTd
  have hs := P.hs
  have hi : i < T := P.it (by show 3 ≤ 3; omega)
  have hpl := pl_at hs hi t4
  have hpT : tPl T start i < T := tPl_lt t1 i
  generalize hp : tPl T start i = p at *
  have en := ent_at (R := R) hpT
  have e9 := eP_lt' hl hpT
  have c0 := (P.hw (eP p)).1
  have c1 := (P.hw (eP p)).2
  have ewi : IntKind.i64.wrap ((i : Int) + 1) = ((i + 1 : Nat) : Int) := by rw [wi64 (by omega) (by omega)]; omega
  have tz : ¬ (T : Int) = 0 := by omega
  have ky : kyW (W.getD (eP p) 0) = W.getD (eP p) 0 / 4 := by unfold kyW; rw [if_pos hk]
  have hz : ¬ W.getD (eP p) 0 = 0 := (isK_ne hk).1
  have hf' : kyW (W.getD (eP p) 0) = key := by rw [ky]; exact hf
  have ht' : ¬ IntKind.i64.wrap ((i : Int) + 1) = (T : Int) := by rw [ewi]; omega
  refine gives_x hX (fn := Tryz.f131) rfl rfl rfl rfl fun ρ w => ?_
  dsimp only [drC]
  refine sx hX [] 4000 rfl (by (simp [-List.getD_eq_getElem?_getD, -List.length_eq_zero_iff, conjP])) ?_
  refine sx hX [.F] 4000 rfl (by (simp [-List.getD_eq_getElem?_getD, -List.length_eq_zero_iff, conjP, addOP])) ?_
  refine sx hX [.F] 4000 rfl (by (simp [-List.getD_eq_getElem?_getD, -List.length_eq_zero_iff, conjP, addOP])) ?_
  refine sx hX [.F] 4000 rfl (by (simp [-List.getD_eq_getElem?_getD, -List.length_eq_zero_iff, conjP, addOP])) ?_
  refine sx hX [.T] 4000 rfl (by (simp [-List.getD_eq_getElem?_getD, -List.length_eq_zero_iff, conjP, getH, HE.so, hr, s0, hst, k1, k9, hpl, en, e9, c0, c1, Int.toNat_natCast] <;> (first | omega | ((repeat' (refine And.intro ?_ ?_)) <;> (first | omega | exact decide_eq_false (by omega) | exact decide_eq_true (by omega)))))) ?_
  refine sx hX [.F] 4000 rfl (by (simp [-List.getD_eq_getElem?_getD, -List.length_eq_zero_iff, conjP, addOP, hst, hpl, en, Int.toNat_natCast, hk])) ?_
  refine sx hX [.K, .T] 4000 rfl (by (simp [-List.getD_eq_getElem?_getD, -List.length_eq_zero_iff, conjP, hst, hpl, en, Int.toNat_natCast, hk])) ?_
  refine sx hX [.K, .T] 4000 rfl (by (simp [-List.getD_eq_getElem?_getD, -List.length_eq_zero_iff, conjP, hst, hpl, en, Int.toNat_natCast, hf'])) ?_
  refine sx hX [.T] 4000 rfl (by (simp [-List.getD_eq_getElem?_getD, -List.length_eq_zero_iff, conjP, addOP])) ?_
  refine sx hX [.F] 4000 rfl (by (simp [-List.getD_eq_getElem?_getD, -List.length_eq_zero_iff, conjP, addOP, hst, hpl, en, Int.toNat_natCast, hf'])) ?_
  ((try simp only [hst, hpl, en, ewi, Int.toNat_natCast]); refine ss_end hX [0, 1, 2] rfl rfl trivial rfl rfl rfl rfl ?hv ?hh ?hk ?ho; (case hv => exact clD); (case hh => exact clD); (case hk => exact clD); (case ho => exact clD))
set_option maxHeartbeats 4000000 in
theorem d3ckn (P : TPre T R start ⟨false, lg, key, 3, seq, i, fd, hd, tm, 0, pl, sn, fl, bk, ep, tp, tl⟩ W st) (hk : isK (W.getD (eP (tPl T start i)) 0) = true) (hf : ¬ W.getD (eP (tPl T start i)) 0 / 4 = key) (ht : ¬ i + 1 = T) : Dtp T R start ⟨false, lg, key, 3, seq, i, fd, hd, tm, 0, pl, sn, fl, bk, ep, tp, tl⟩ W st kd wd vl ch ⟨⟨false, lg, key, 3, seq, (i + 1), fd, hd, tm, 0, pl, sn, fl, bk, ep, tp, tl⟩, W, 1, (eP (tPl T start i) : Int), W.getD (eP (tPl T start i)) 0, false⟩ pl pl := by
  have t1 := P.t1
  have t4 := P.t4
  have r1 := P.r1
  have r8 := P.r8
  have hst : startV (T : Int) 4 1 4 4 1 6 0 R key = (start : Int) := P.hst
  have hl := P.hl
  have s0 := P.s0
  have s1 := P.s1
  have k1 : 1 ≤ key := P.k1
  have k6 : key ≤ 6 := P.k6
  have k9 : key ≤ 2147483647 := by omega
  have q0 : 0 ≤ seq := P.q0
  have q1 : seq < 1000000000 := P.q1
  have f0 : 0 ≤ fd := P.f0
  have f1 : fd < R := P.f1
  have g0 : 0 ≤ fl := P.g0
  have n0 : 0 ≤ sn := P.n0
  have n1 : sn < 18446744073709551616 := P.n1
  have hr := right_TR t1 t4 r1 r8
  have l2 : (2 : Int) < (W.length : Int) := by omega
  have w2 := (P.hw 2).1
  have w2' := (P.hw 2).2
  have ew1 : IntKind.u64.wrap (seq + 1) = seq + 1 := wu64 (by omega) (by omega)
  have ew2 : IntKind.u64.wrap (seq + 2) = seq + 2 := wu64 (by omega) (by omega)
  have ewf : IntKind.i64.wrap (fd + 1) = fd + 1 := wi64 (by omega) (by omega)
  have hX := hXTd
  have hs := P.hs
  have hi : i < T := P.it (by show 3 ≤ 3; omega)
  have hpl := pl_at hs hi t4
  have hpT : tPl T start i < T := tPl_lt t1 i
  generalize hp : tPl T start i = p at *
  have en := ent_at (R := R) hpT
  have e9 := eP_lt' hl hpT
  have c0 := (P.hw (eP p)).1
  have c1 := (P.hw (eP p)).2
  have ewi : IntKind.i64.wrap ((i : Int) + 1) = ((i + 1 : Nat) : Int) := by rw [wi64 (by omega) (by omega)]; omega
  have tz : ¬ (T : Int) = 0 := by omega
  have ky : kyW (W.getD (eP p) 0) = W.getD (eP p) 0 / 4 := by unfold kyW; rw [if_pos hk]
  have hz : ¬ W.getD (eP p) 0 = 0 := (isK_ne hk).1
  have hf' : ¬ kyW (W.getD (eP p) 0) = key := by rw [ky]; exact hf
  have ht' : ¬ IntKind.i64.wrap ((i : Int) + 1) = (T : Int) := by rw [ewi]; omega
  refine gives_x hX (fn := Tryz.f131) rfl rfl rfl rfl fun ρ w => ?_
  dsimp only [drC]
  refine sx hX [] 4000 rfl (by (simp [-List.getD_eq_getElem?_getD, -List.length_eq_zero_iff, conjP])) ?_
  refine sx hX [.F] 4000 rfl (by (simp [-List.getD_eq_getElem?_getD, -List.length_eq_zero_iff, conjP, addOP])) ?_
  refine sx hX [.F] 4000 rfl (by (simp [-List.getD_eq_getElem?_getD, -List.length_eq_zero_iff, conjP, addOP])) ?_
  refine sx hX [.F] 4000 rfl (by (simp [-List.getD_eq_getElem?_getD, -List.length_eq_zero_iff, conjP, addOP])) ?_
  refine sx hX [.T] 4000 rfl (by (simp [-List.getD_eq_getElem?_getD, -List.length_eq_zero_iff, conjP, getH, HE.so, hr, s0, hst, k1, k9, hpl, en, e9, c0, c1, Int.toNat_natCast] <;> (first | omega | ((repeat' (refine And.intro ?_ ?_)) <;> (first | omega | exact decide_eq_false (by omega) | exact decide_eq_true (by omega)))))) ?_
  refine sx hX [.F] 4000 rfl (by (simp [-List.getD_eq_getElem?_getD, -List.length_eq_zero_iff, conjP, addOP, hst, hpl, en, Int.toNat_natCast, hk])) ?_
  refine sx hX [.K, .T] 4000 rfl (by (simp [-List.getD_eq_getElem?_getD, -List.length_eq_zero_iff, conjP, hst, hpl, en, Int.toNat_natCast, hk])) ?_
  refine sx hX [.K, .F, .K, .K, .F] 4000 rfl (by (simp [-List.getD_eq_getElem?_getD, -List.length_eq_zero_iff, conjP, hst, hpl, en, Int.toNat_natCast, hz, hf'])) ?_
  refine sx hX [.F] 4000 rfl (by (simp [-List.getD_eq_getElem?_getD, -List.length_eq_zero_iff, conjP, addOP, ht'])) ?_
  ((try simp only [hst, hpl, en, ewi, Int.toNat_natCast]); refine ss_end hX [0, 1, 2] rfl rfl trivial rfl rfl rfl rfl ?hv ?hh ?hk ?ho; (case hv => exact clD); (case hh => exact clD); (case hk => exact clD); (case ho => exact clD))
set_option maxHeartbeats 4000000 in
theorem d3ckt1 (P : TPre T R start ⟨false, lg, key, 3, seq, i, fd, hd, tm, 0, (-1), sn, fl, bk, ep, tp, tl⟩ W st) (hk : isK (W.getD (eP (tPl T start i)) 0) = true) (hf : ¬ W.getD (eP (tPl T start i)) 0 / 4 = key) (ht : i + 1 = T) : Dtp T R start ⟨false, lg, key, 3, seq, i, fd, hd, tm, 0, (-1), sn, fl, bk, ep, tp, tl⟩ W st kd wd vl ch ⟨⟨false, lg, key, 7, seq, (i + 1), fd, hd, (st + 1), 15, (-1), sn, fl, bk, ep, tp, tl⟩, W, 1, (eP (tPl T start i) : Int), W.getD (eP (tPl T start i)) 0, false⟩ (-1) (-1) := by
  have t1 := P.t1
  have t4 := P.t4
  have r1 := P.r1
  have r8 := P.r8
  have hst : startV (T : Int) 4 1 4 4 1 6 0 R key = (start : Int) := P.hst
  have hl := P.hl
  have s0 := P.s0
  have s1 := P.s1
  have k1 : 1 ≤ key := P.k1
  have k6 : key ≤ 6 := P.k6
  have k9 : key ≤ 2147483647 := by omega
  have q0 : 0 ≤ seq := P.q0
  have q1 : seq < 1000000000 := P.q1
  have f0 : 0 ≤ fd := P.f0
  have f1 : fd < R := P.f1
  have g0 : 0 ≤ fl := P.g0
  have n0 : 0 ≤ sn := P.n0
  have n1 : sn < 18446744073709551616 := P.n1
  have hr := right_TR t1 t4 r1 r8
  have l2 : (2 : Int) < (W.length : Int) := by omega
  have w2 := (P.hw 2).1
  have w2' := (P.hw 2).2
  have ew1 : IntKind.u64.wrap (seq + 1) = seq + 1 := wu64 (by omega) (by omega)
  have ew2 : IntKind.u64.wrap (seq + 2) = seq + 2 := wu64 (by omega) (by omega)
  have ewf : IntKind.i64.wrap (fd + 1) = fd + 1 := wi64 (by omega) (by omega)
  have hX := hXTd
  have hs := P.hs
  have hi : i < T := P.it (by show 3 ≤ 3; omega)
  have hpl := pl_at hs hi t4
  have hpT : tPl T start i < T := tPl_lt t1 i
  generalize hp : tPl T start i = p at *
  have en := ent_at (R := R) hpT
  have e9 := eP_lt' hl hpT
  have c0 := (P.hw (eP p)).1
  have c1 := (P.hw (eP p)).2
  have ewi : IntKind.i64.wrap ((i : Int) + 1) = ((i + 1 : Nat) : Int) := by rw [wi64 (by omega) (by omega)]; omega
  have tz : ¬ (T : Int) = 0 := by omega
  have ky : kyW (W.getD (eP p) 0) = W.getD (eP p) 0 / 4 := by unfold kyW; rw [if_pos hk]
  have hz : ¬ W.getD (eP p) 0 = 0 := (isK_ne hk).1
  have hf' : ¬ kyW (W.getD (eP p) 0) = key := by rw [ky]; exact hf
  have ht' : IntKind.i64.wrap ((i : Int) + 1) = (T : Int) := by rw [ewi]; omega
  refine gives_x hX (fn := Tryz.f131) rfl rfl rfl rfl fun ρ w => ?_
  dsimp only [drC]
  refine sx hX [] 4000 rfl (by (simp [-List.getD_eq_getElem?_getD, -List.length_eq_zero_iff, conjP])) ?_
  refine sx hX [.F] 4000 rfl (by (simp [-List.getD_eq_getElem?_getD, -List.length_eq_zero_iff, conjP, addOP])) ?_
  refine sx hX [.F] 4000 rfl (by (simp [-List.getD_eq_getElem?_getD, -List.length_eq_zero_iff, conjP, addOP])) ?_
  refine sx hX [.F] 4000 rfl (by (simp [-List.getD_eq_getElem?_getD, -List.length_eq_zero_iff, conjP, addOP])) ?_
  refine sx hX [.T] 4000 rfl (by (simp [-List.getD_eq_getElem?_getD, -List.length_eq_zero_iff, conjP, getH, HE.so, hr, s0, hst, k1, k9, hpl, en, e9, c0, c1, Int.toNat_natCast] <;> (first | omega | ((repeat' (refine And.intro ?_ ?_)) <;> (first | omega | exact decide_eq_false (by omega) | exact decide_eq_true (by omega)))))) ?_
  refine sx hX [.F] 4000 rfl (by (simp [-List.getD_eq_getElem?_getD, -List.length_eq_zero_iff, conjP, addOP, hst, hpl, en, Int.toNat_natCast, hk])) ?_
  refine sx hX [.K, .T] 4000 rfl (by (simp [-List.getD_eq_getElem?_getD, -List.length_eq_zero_iff, conjP, hst, hpl, en, Int.toNat_natCast, hk])) ?_
  refine sx hX [.K, .F, .K, .K, .F] 4000 rfl (by (simp [-List.getD_eq_getElem?_getD, -List.length_eq_zero_iff, conjP, hst, hpl, en, Int.toNat_natCast, hz, hf'])) ?_
  refine sx hX [.T] 4000 rfl (by (simp [-List.getD_eq_getElem?_getD, -List.length_eq_zero_iff, conjP, addOP, ht'])) ?_
  refine sx hX [.F] 4000 rfl (by (simp [-List.getD_eq_getElem?_getD, -List.length_eq_zero_iff, conjP, addOP])) ?_
  refine sx hX [.F] 4000 rfl (by (simp [-List.getD_eq_getElem?_getD, -List.length_eq_zero_iff, conjP, addOP, hst, hpl, en, Int.toNat_natCast, hf'])) ?_
  refine sx hX [.T] 4000 rfl (by (simp [-List.getD_eq_getElem?_getD, -List.length_eq_zero_iff, conjP, addOP])) ?_
  refine sx hX [.T] 4000 rfl (by (simp [-List.getD_eq_getElem?_getD, -List.length_eq_zero_iff, conjP, addOP])) ?_
  ((try simp only [hst, hpl, en, ewi, Int.toNat_natCast]); refine ss_end hX [0, 1, 2] rfl rfl trivial rfl rfl rfl rfl ?hv ?hh ?hk ?ho; (case hv => exact clD); (case hh => exact clD); (case hk => exact clD); (case ho => exact clD))
set_option maxHeartbeats 4000000 in
theorem d3ckt2 (P : TPre T R start ⟨false, lg, key, 3, seq, i, fd, hd, tm, 0, pl, sn, fl, bk, ep, tp, tl⟩ W st) (hk : isK (W.getD (eP (tPl T start i)) 0) = true) (hf : ¬ W.getD (eP (tPl T start i)) 0 / 4 = key) (ht : i + 1 = T) (hn : ¬ pl = -1) : Dtp T R start ⟨false, lg, key, 3, seq, i, fd, hd, tm, 0, pl, sn, fl, bk, ep, tp, tl⟩ W st kd wd vl ch ⟨⟨false, lg, key, 4, seq, (i + 1), fd, hd, tm, 0, pl, sn, fl, bk, ep, tp, tl⟩, W, 1, (eP (tPl T start i) : Int), W.getD (eP (tPl T start i)) 0, false⟩ pl pl := by
  have t1 := P.t1
  have t4 := P.t4
  have r1 := P.r1
  have r8 := P.r8
  have hst : startV (T : Int) 4 1 4 4 1 6 0 R key = (start : Int) := P.hst
  have hl := P.hl
  have s0 := P.s0
  have s1 := P.s1
  have k1 : 1 ≤ key := P.k1
  have k6 : key ≤ 6 := P.k6
  have k9 : key ≤ 2147483647 := by omega
  have q0 : 0 ≤ seq := P.q0
  have q1 : seq < 1000000000 := P.q1
  have f0 : 0 ≤ fd := P.f0
  have f1 : fd < R := P.f1
  have g0 : 0 ≤ fl := P.g0
  have n0 : 0 ≤ sn := P.n0
  have n1 : sn < 18446744073709551616 := P.n1
  have hr := right_TR t1 t4 r1 r8
  have l2 : (2 : Int) < (W.length : Int) := by omega
  have w2 := (P.hw 2).1
  have w2' := (P.hw 2).2
  have ew1 : IntKind.u64.wrap (seq + 1) = seq + 1 := wu64 (by omega) (by omega)
  have ew2 : IntKind.u64.wrap (seq + 2) = seq + 2 := wu64 (by omega) (by omega)
  have ewf : IntKind.i64.wrap (fd + 1) = fd + 1 := wi64 (by omega) (by omega)
  have hX := hXTd
  have hs := P.hs
  have hi : i < T := P.it (by show 3 ≤ 3; omega)
  have hpl := pl_at hs hi t4
  have hpT : tPl T start i < T := tPl_lt t1 i
  generalize hp : tPl T start i = p at *
  have en := ent_at (R := R) hpT
  have e9 := eP_lt' hl hpT
  have c0 := (P.hw (eP p)).1
  have c1 := (P.hw (eP p)).2
  have ewi : IntKind.i64.wrap ((i : Int) + 1) = ((i + 1 : Nat) : Int) := by rw [wi64 (by omega) (by omega)]; omega
  have tz : ¬ (T : Int) = 0 := by omega
  have ky : kyW (W.getD (eP p) 0) = W.getD (eP p) 0 / 4 := by unfold kyW; rw [if_pos hk]
  have hz : ¬ W.getD (eP p) 0 = 0 := (isK_ne hk).1
  have hf' : ¬ kyW (W.getD (eP p) 0) = key := by rw [ky]; exact hf
  have ht' : IntKind.i64.wrap ((i : Int) + 1) = (T : Int) := by rw [ewi]; omega
  have hn' : ¬ pl < 0 := by
    rcases P.pc rfl rfl with e | ⟨q, _, e⟩
    · exact absurd e hn
    · have e : pl = (q : Int) := e
      omega
  refine gives_x hX (fn := Tryz.f131) rfl rfl rfl rfl fun ρ w => ?_
  dsimp only [drC]
  refine sx hX [] 4000 rfl (by (simp [-List.getD_eq_getElem?_getD, -List.length_eq_zero_iff, conjP])) ?_
  refine sx hX [.F] 4000 rfl (by (simp [-List.getD_eq_getElem?_getD, -List.length_eq_zero_iff, conjP, addOP])) ?_
  refine sx hX [.F] 4000 rfl (by (simp [-List.getD_eq_getElem?_getD, -List.length_eq_zero_iff, conjP, addOP])) ?_
  refine sx hX [.F] 4000 rfl (by (simp [-List.getD_eq_getElem?_getD, -List.length_eq_zero_iff, conjP, addOP])) ?_
  refine sx hX [.T] 4000 rfl (by (simp [-List.getD_eq_getElem?_getD, -List.length_eq_zero_iff, conjP, getH, HE.so, hr, s0, hst, k1, k9, hpl, en, e9, c0, c1, Int.toNat_natCast] <;> (first | omega | ((repeat' (refine And.intro ?_ ?_)) <;> (first | omega | exact decide_eq_false (by omega) | exact decide_eq_true (by omega)))))) ?_
  refine sx hX [.F] 4000 rfl (by (simp [-List.getD_eq_getElem?_getD, -List.length_eq_zero_iff, conjP, addOP, hst, hpl, en, Int.toNat_natCast, hk])) ?_
  refine sx hX [.K, .T] 4000 rfl (by (simp [-List.getD_eq_getElem?_getD, -List.length_eq_zero_iff, conjP, hst, hpl, en, Int.toNat_natCast, hk])) ?_
  refine sx hX [.K, .F, .K, .K, .F] 4000 rfl (by (simp [-List.getD_eq_getElem?_getD, -List.length_eq_zero_iff, conjP, hst, hpl, en, Int.toNat_natCast, hz, hf'])) ?_
  refine sx hX [.T] 4000 rfl (by (simp [-List.getD_eq_getElem?_getD, -List.length_eq_zero_iff, conjP, addOP, ht'])) ?_
  refine sx hX [.F] 4000 rfl (by (simp [-List.getD_eq_getElem?_getD, -List.length_eq_zero_iff, conjP, addOP])) ?_
  refine sx hX [.F] 4000 rfl (by (simp [-List.getD_eq_getElem?_getD, -List.length_eq_zero_iff, conjP, addOP, hst, hpl, en, Int.toNat_natCast, hf'])) ?_
  refine sx hX [.F] 4000 rfl (by (simp [-List.getD_eq_getElem?_getD, -List.length_eq_zero_iff, conjP, addOP, hn'])) ?_
  refine sx hX [.F] 4000 rfl (by (simp [-List.getD_eq_getElem?_getD, -List.length_eq_zero_iff, conjP, addOP])) ?_
  ((try simp only [hst, hpl, en, ewi, Int.toNat_natCast]); refine ss_end hX [0, 1, 2] rfl rfl trivial rfl rfl rfl rfl ?hv ?hh ?hk ?ho; (case hv => exact clD); (case hh => exact clD); (case hk => exact clD); (case ho => exact clD))
set_option maxHeartbeats 4000000 in
theorem d3cgn1 (P : TPre T R start ⟨false, lg, key, 3, seq, i, fd, hd, tm, 0, (-1), sn, fl, bk, ep, tp, tl⟩ W st) (hk : isK (W.getD (eP (tPl T start i)) 0) = false) (hz : ¬ W.getD (eP (tPl T start i)) 0 = 0) (ht : ¬ i + 1 = T) : Dtp T R start ⟨false, lg, key, 3, seq, i, fd, hd, tm, 0, (-1), sn, fl, bk, ep, tp, tl⟩ W st kd wd vl ch ⟨⟨false, lg, key, 3, seq, (i + 1), fd, hd, tm, 0, ((tPl T start i : Nat) : Int), sn, fl, bk, ep, tp, tl⟩, W, 1, (eP (tPl T start i) : Int), W.getD (eP (tPl T start i)) 0, false⟩ (-1) ((tPl T start i : Nat) : Int) := by
  have t1 := P.t1
  have t4 := P.t4
  have r1 := P.r1
  have r8 := P.r8
  have hst : startV (T : Int) 4 1 4 4 1 6 0 R key = (start : Int) := P.hst
  have hl := P.hl
  have s0 := P.s0
  have s1 := P.s1
  have k1 : 1 ≤ key := P.k1
  have k6 : key ≤ 6 := P.k6
  have k9 : key ≤ 2147483647 := by omega
  have q0 : 0 ≤ seq := P.q0
  have q1 : seq < 1000000000 := P.q1
  have f0 : 0 ≤ fd := P.f0
  have f1 : fd < R := P.f1
  have g0 : 0 ≤ fl := P.g0
  have n0 : 0 ≤ sn := P.n0
  have n1 : sn < 18446744073709551616 := P.n1
  have hr := right_TR t1 t4 r1 r8
  have l2 : (2 : Int) < (W.length : Int) := by omega
  have w2 := (P.hw 2).1
  have w2' := (P.hw 2).2
  have ew1 : IntKind.u64.wrap (seq + 1) = seq + 1 := wu64 (by omega) (by omega)
  have ew2 : IntKind.u64.wrap (seq + 2) = seq + 2 := wu64 (by omega) (by omega)
  have ewf : IntKind.i64.wrap (fd + 1) = fd + 1 := wi64 (by omega) (by omega)
  have hX := hXTd
  have hs := P.hs
  have hi : i < T := P.it (by show 3 ≤ 3; omega)
  have hpl := pl_at hs hi t4
  have hpT : tPl T start i < T := tPl_lt t1 i
  generalize hp : tPl T start i = p at *
  have en := ent_at (R := R) hpT
  have e9 := eP_lt' hl hpT
  have c0 := (P.hw (eP p)).1
  have c1 := (P.hw (eP p)).2
  have ewi : IntKind.i64.wrap ((i : Int) + 1) = ((i + 1 : Nat) : Int) := by rw [wi64 (by omega) (by omega)]; omega
  have tz : ¬ (T : Int) = 0 := by omega
  have ht' : ¬ IntKind.i64.wrap ((i : Int) + 1) = (T : Int) := by rw [ewi]; omega
  refine gives_x hX (fn := Tryz.f131) rfl rfl rfl rfl fun ρ w => ?_
  dsimp only [drC]
  refine sx hX [] 4000 rfl (by (simp [-List.getD_eq_getElem?_getD, -List.length_eq_zero_iff, conjP])) ?_
  refine sx hX [.F] 4000 rfl (by (simp [-List.getD_eq_getElem?_getD, -List.length_eq_zero_iff, conjP, addOP])) ?_
  refine sx hX [.F] 4000 rfl (by (simp [-List.getD_eq_getElem?_getD, -List.length_eq_zero_iff, conjP, addOP])) ?_
  refine sx hX [.F] 4000 rfl (by (simp [-List.getD_eq_getElem?_getD, -List.length_eq_zero_iff, conjP, addOP])) ?_
  refine sx hX [.T] 4000 rfl (by (simp [-List.getD_eq_getElem?_getD, -List.length_eq_zero_iff, conjP, getH, HE.so, hr, s0, hst, k1, k9, hpl, en, e9, c0, c1, Int.toNat_natCast] <;> (first | omega | ((repeat' (refine And.intro ?_ ?_)) <;> (first | omega | exact decide_eq_false (by omega) | exact decide_eq_true (by omega)))))) ?_
  refine sx hX [.T] 4000 rfl (by (simp [-List.getD_eq_getElem?_getD, -List.length_eq_zero_iff, conjP, addOP, hst, hpl, en, Int.toNat_natCast, hk])) ?_
  refine sx hX [.T] 4000 rfl (by (simp [-List.getD_eq_getElem?_getD, -List.length_eq_zero_iff, conjP, addOP])) ?_
  refine sx hX [.T] 4000 rfl (by (simp [-List.getD_eq_getElem?_getD, -List.length_eq_zero_iff, conjP, addOP])) ?_
  refine sx hX [.K, .F] 4000 rfl (by (simp [-List.getD_eq_getElem?_getD, -List.length_eq_zero_iff, conjP, hst, hpl, en, Int.toNat_natCast, hk])) ?_
  refine sx hX [.K, .K, .F] 4000 rfl (by (simp [-List.getD_eq_getElem?_getD, -List.length_eq_zero_iff, conjP, hst, hpl, en, Int.toNat_natCast, hz])) ?_
  refine sx hX [.F] 4000 rfl (by (simp [-List.getD_eq_getElem?_getD, -List.length_eq_zero_iff, conjP, addOP, ht'])) ?_
  ((try simp only [hst, hpl, en, ewi, Int.toNat_natCast]); refine ss_end hX [0, 1, 2] rfl rfl trivial rfl rfl rfl rfl ?hv ?hh ?hk ?ho; (case hv => exact clD); (case hh => exact clD); (case hk => exact clD); (case ho => exact clD))
set_option maxHeartbeats 4000000 in
theorem d3cgn2 (P : TPre T R start ⟨false, lg, key, 3, seq, i, fd, hd, tm, 0, pl, sn, fl, bk, ep, tp, tl⟩ W st) (hk : isK (W.getD (eP (tPl T start i)) 0) = false) (hz : ¬ W.getD (eP (tPl T start i)) 0 = 0) (ht : ¬ i + 1 = T) (hn : ¬ pl = -1) : Dtp T R start ⟨false, lg, key, 3, seq, i, fd, hd, tm, 0, pl, sn, fl, bk, ep, tp, tl⟩ W st kd wd vl ch ⟨⟨false, lg, key, 3, seq, (i + 1), fd, hd, tm, 0, pl, sn, fl, bk, ep, tp, tl⟩, W, 1, (eP (tPl T start i) : Int), W.getD (eP (tPl T start i)) 0, false⟩ pl pl := by
  have t1 := P.t1
  have t4 := P.t4
  have r1 := P.r1
  have r8 := P.r8
  have hst : startV (T : Int) 4 1 4 4 1 6 0 R key = (start : Int) := P.hst
  have hl := P.hl
  have s0 := P.s0
  have s1 := P.s1
  have k1 : 1 ≤ key := P.k1
  have k6 : key ≤ 6 := P.k6
  have k9 : key ≤ 2147483647 := by omega
  have q0 : 0 ≤ seq := P.q0
  have q1 : seq < 1000000000 := P.q1
  have f0 : 0 ≤ fd := P.f0
  have f1 : fd < R := P.f1
  have g0 : 0 ≤ fl := P.g0
  have n0 : 0 ≤ sn := P.n0
  have n1 : sn < 18446744073709551616 := P.n1
  have hr := right_TR t1 t4 r1 r8
  have l2 : (2 : Int) < (W.length : Int) := by omega
  have w2 := (P.hw 2).1
  have w2' := (P.hw 2).2
  have ew1 : IntKind.u64.wrap (seq + 1) = seq + 1 := wu64 (by omega) (by omega)
  have ew2 : IntKind.u64.wrap (seq + 2) = seq + 2 := wu64 (by omega) (by omega)
  have ewf : IntKind.i64.wrap (fd + 1) = fd + 1 := wi64 (by omega) (by omega)
  have hX := hXTd
  have hs := P.hs
  have hi : i < T := P.it (by show 3 ≤ 3; omega)
  have hpl := pl_at hs hi t4
  have hpT : tPl T start i < T := tPl_lt t1 i
  generalize hp : tPl T start i = p at *
  have en := ent_at (R := R) hpT
  have e9 := eP_lt' hl hpT
  have c0 := (P.hw (eP p)).1
  have c1 := (P.hw (eP p)).2
  have ewi : IntKind.i64.wrap ((i : Int) + 1) = ((i + 1 : Nat) : Int) := by rw [wi64 (by omega) (by omega)]; omega
  have tz : ¬ (T : Int) = 0 := by omega
  have ht' : ¬ IntKind.i64.wrap ((i : Int) + 1) = (T : Int) := by rw [ewi]; omega
  have hn' : ¬ pl < 0 := by
    rcases P.pc rfl rfl with e | ⟨q, _, e⟩
    · exact absurd e hn
    · have e : pl = (q : Int) := e
      omega
  refine gives_x hX (fn := Tryz.f131) rfl rfl rfl rfl fun ρ w => ?_
  dsimp only [drC]
  refine sx hX [] 4000 rfl (by (simp [-List.getD_eq_getElem?_getD, -List.length_eq_zero_iff, conjP])) ?_
  refine sx hX [.F] 4000 rfl (by (simp [-List.getD_eq_getElem?_getD, -List.length_eq_zero_iff, conjP, addOP])) ?_
  refine sx hX [.F] 4000 rfl (by (simp [-List.getD_eq_getElem?_getD, -List.length_eq_zero_iff, conjP, addOP])) ?_
  refine sx hX [.F] 4000 rfl (by (simp [-List.getD_eq_getElem?_getD, -List.length_eq_zero_iff, conjP, addOP])) ?_
  refine sx hX [.T] 4000 rfl (by (simp [-List.getD_eq_getElem?_getD, -List.length_eq_zero_iff, conjP, getH, HE.so, hr, s0, hst, k1, k9, hpl, en, e9, c0, c1, Int.toNat_natCast] <;> (first | omega | ((repeat' (refine And.intro ?_ ?_)) <;> (first | omega | exact decide_eq_false (by omega) | exact decide_eq_true (by omega)))))) ?_
  refine sx hX [.T] 4000 rfl (by (simp [-List.getD_eq_getElem?_getD, -List.length_eq_zero_iff, conjP, addOP, hst, hpl, en, Int.toNat_natCast, hk])) ?_
  refine sx hX [.F] 4000 rfl (by (simp [-List.getD_eq_getElem?_getD, -List.length_eq_zero_iff, conjP, addOP, hn'])) ?_
  refine sx hX [.K, .F] 4000 rfl (by (simp [-List.getD_eq_getElem?_getD, -List.length_eq_zero_iff, conjP, hst, hpl, en, Int.toNat_natCast, hk])) ?_
  refine sx hX [.K, .K, .F] 4000 rfl (by (simp [-List.getD_eq_getElem?_getD, -List.length_eq_zero_iff, conjP, hst, hpl, en, Int.toNat_natCast, hz])) ?_
  refine sx hX [.F] 4000 rfl (by (simp [-List.getD_eq_getElem?_getD, -List.length_eq_zero_iff, conjP, addOP, ht'])) ?_
  ((try simp only [hst, hpl, en, ewi, Int.toNat_natCast]); refine ss_end hX [0, 1, 2] rfl rfl trivial rfl rfl rfl rfl ?hv ?hh ?hk ?ho; (case hv => exact clD); (case hh => exact clD); (case hk => exact clD); (case ho => exact clD))
set_option maxHeartbeats 4000000 in
theorem d3cgz1 (P : TPre T R start ⟨false, lg, key, 3, seq, i, fd, hd, tm, 0, (-1), sn, fl, bk, ep, tp, tl⟩ W st) (_hk : isK (W.getD (eP (tPl T start i)) 0) = false) (hz : W.getD (eP (tPl T start i)) 0 = 0) : Dtp T R start ⟨false, lg, key, 3, seq, i, fd, hd, tm, 0, (-1), sn, fl, bk, ep, tp, tl⟩ W st kd wd vl ch ⟨⟨false, lg, key, 4, seq, (i + 1), fd, hd, tm, 0, ((tPl T start i : Nat) : Int), sn, fl, bk, ep, tp, tl⟩, W, 1, (eP (tPl T start i) : Int), W.getD (eP (tPl T start i)) 0, false⟩ (-1) ((tPl T start i : Nat) : Int) := by
  have t1 := P.t1
  have t4 := P.t4
  have r1 := P.r1
  have r8 := P.r8
  have hst : startV (T : Int) 4 1 4 4 1 6 0 R key = (start : Int) := P.hst
  have hl := P.hl
  have s0 := P.s0
  have s1 := P.s1
  have k1 : 1 ≤ key := P.k1
  have k6 : key ≤ 6 := P.k6
  have k9 : key ≤ 2147483647 := by omega
  have q0 : 0 ≤ seq := P.q0
  have q1 : seq < 1000000000 := P.q1
  have f0 : 0 ≤ fd := P.f0
  have f1 : fd < R := P.f1
  have g0 : 0 ≤ fl := P.g0
  have n0 : 0 ≤ sn := P.n0
  have n1 : sn < 18446744073709551616 := P.n1
  have hr := right_TR t1 t4 r1 r8
  have l2 : (2 : Int) < (W.length : Int) := by omega
  have w2 := (P.hw 2).1
  have w2' := (P.hw 2).2
  have ew1 : IntKind.u64.wrap (seq + 1) = seq + 1 := wu64 (by omega) (by omega)
  have ew2 : IntKind.u64.wrap (seq + 2) = seq + 2 := wu64 (by omega) (by omega)
  have ewf : IntKind.i64.wrap (fd + 1) = fd + 1 := wi64 (by omega) (by omega)
  have hX := hXTd
  have hs := P.hs
  have hi : i < T := P.it (by show 3 ≤ 3; omega)
  have hpl := pl_at hs hi t4
  have hpT : tPl T start i < T := tPl_lt t1 i
  generalize hp : tPl T start i = p at *
  have en := ent_at (R := R) hpT
  have e9 := eP_lt' hl hpT
  have c0 := (P.hw (eP p)).1
  have c1 := (P.hw (eP p)).2
  have ewi : IntKind.i64.wrap ((i : Int) + 1) = ((i + 1 : Nat) : Int) := by rw [wi64 (by omega) (by omega)]; omega
  have tz : ¬ (T : Int) = 0 := by omega
  have k00 : isK 0 = false := by decide
  refine gives_x hX (fn := Tryz.f131) rfl rfl rfl rfl fun ρ w => ?_
  dsimp only [drC]
  refine sx hX [] 4000 rfl (by (simp [-List.getD_eq_getElem?_getD, -List.length_eq_zero_iff, conjP])) ?_
  refine sx hX [.F] 4000 rfl (by (simp [-List.getD_eq_getElem?_getD, -List.length_eq_zero_iff, conjP, addOP])) ?_
  refine sx hX [.F] 4000 rfl (by (simp [-List.getD_eq_getElem?_getD, -List.length_eq_zero_iff, conjP, addOP])) ?_
  refine sx hX [.F] 4000 rfl (by (simp [-List.getD_eq_getElem?_getD, -List.length_eq_zero_iff, conjP, addOP])) ?_
  refine sx hX [.T] 4000 rfl (by (simp [-List.getD_eq_getElem?_getD, -List.length_eq_zero_iff, conjP, getH, HE.so, hr, s0, hst, k1, k9, hpl, en, e9, Int.toNat_natCast, hz] <;> (first | omega | ((repeat' (refine And.intro ?_ ?_)) <;> (first | omega | exact decide_eq_false (by omega) | exact decide_eq_true (by omega)))))) ?_
  refine sx hX [.T] 4000 rfl (by (simp [-List.getD_eq_getElem?_getD, -List.length_eq_zero_iff, conjP, addOP, hst, hpl, en, Int.toNat_natCast, hz, k00])) ?_
  refine sx hX [.T] 4000 rfl (by (simp [-List.getD_eq_getElem?_getD, -List.length_eq_zero_iff, conjP, addOP])) ?_
  refine sx hX [.T] 4000 rfl (by (simp [-List.getD_eq_getElem?_getD, -List.length_eq_zero_iff, conjP, addOP])) ?_
  refine sx hX [.K, .F] 4000 rfl (by (simp [-List.getD_eq_getElem?_getD, -List.length_eq_zero_iff, conjP, hst, hpl, en, Int.toNat_natCast, hz, k00])) ?_
  refine sx hX [.K, .K, .T] 4000 rfl (by (simp [-List.getD_eq_getElem?_getD, -List.length_eq_zero_iff, conjP, hst, hpl, en, Int.toNat_natCast, hz])) ?_
  refine sx hX [.F] 4000 rfl (by (simp [-List.getD_eq_getElem?_getD, -List.length_eq_zero_iff, conjP, addOP])) ?_
  refine sx hX [.F] 4000 rfl (by (simp [-List.getD_eq_getElem?_getD, -List.length_eq_zero_iff, conjP, addOP, hst, hpl])) ?_
  refine sx hX [.F] 4000 rfl (by (simp [-List.getD_eq_getElem?_getD, -List.length_eq_zero_iff, conjP, addOP])) ?_
  ((try simp only [hst, hpl, en, ewi, Int.toNat_natCast]); refine ss_end hX [0, 1, 2] rfl rfl trivial rfl rfl rfl rfl ?hv ?hh ?hk ?ho; (case hv => exact clD); (case hh => exact clD); (case hk => exact clD); (case ho => exact clD))
set_option maxHeartbeats 4000000 in
theorem d3cgz2 (P : TPre T R start ⟨false, lg, key, 3, seq, i, fd, hd, tm, 0, pl, sn, fl, bk, ep, tp, tl⟩ W st) (_hk : isK (W.getD (eP (tPl T start i)) 0) = false) (hz : W.getD (eP (tPl T start i)) 0 = 0) (hn : ¬ pl = -1) : Dtp T R start ⟨false, lg, key, 3, seq, i, fd, hd, tm, 0, pl, sn, fl, bk, ep, tp, tl⟩ W st kd wd vl ch ⟨⟨false, lg, key, 4, seq, (i + 1), fd, hd, tm, 0, pl, sn, fl, bk, ep, tp, tl⟩, W, 1, (eP (tPl T start i) : Int), W.getD (eP (tPl T start i)) 0, false⟩ pl pl := by
  have t1 := P.t1
  have t4 := P.t4
  have r1 := P.r1
  have r8 := P.r8
  have hst : startV (T : Int) 4 1 4 4 1 6 0 R key = (start : Int) := P.hst
  have hl := P.hl
  have s0 := P.s0
  have s1 := P.s1
  have k1 : 1 ≤ key := P.k1
  have k6 : key ≤ 6 := P.k6
  have k9 : key ≤ 2147483647 := by omega
  have q0 : 0 ≤ seq := P.q0
  have q1 : seq < 1000000000 := P.q1
  have f0 : 0 ≤ fd := P.f0
  have f1 : fd < R := P.f1
  have g0 : 0 ≤ fl := P.g0
  have n0 : 0 ≤ sn := P.n0
  have n1 : sn < 18446744073709551616 := P.n1
  have hr := right_TR t1 t4 r1 r8
  have l2 : (2 : Int) < (W.length : Int) := by omega
  have w2 := (P.hw 2).1
  have w2' := (P.hw 2).2
  have ew1 : IntKind.u64.wrap (seq + 1) = seq + 1 := wu64 (by omega) (by omega)
  have ew2 : IntKind.u64.wrap (seq + 2) = seq + 2 := wu64 (by omega) (by omega)
  have ewf : IntKind.i64.wrap (fd + 1) = fd + 1 := wi64 (by omega) (by omega)
  have hX := hXTd
  have hs := P.hs
  have hi : i < T := P.it (by show 3 ≤ 3; omega)
  have hpl := pl_at hs hi t4
  have hpT : tPl T start i < T := tPl_lt t1 i
  generalize hp : tPl T start i = p at *
  have en := ent_at (R := R) hpT
  have e9 := eP_lt' hl hpT
  have c0 := (P.hw (eP p)).1
  have c1 := (P.hw (eP p)).2
  have ewi : IntKind.i64.wrap ((i : Int) + 1) = ((i + 1 : Nat) : Int) := by rw [wi64 (by omega) (by omega)]; omega
  have tz : ¬ (T : Int) = 0 := by omega
  have k00 : isK 0 = false := by decide
  have hn' : ¬ pl < 0 := by
    rcases P.pc rfl rfl with e | ⟨q, _, e⟩
    · exact absurd e hn
    · have e : pl = (q : Int) := e
      omega
  refine gives_x hX (fn := Tryz.f131) rfl rfl rfl rfl fun ρ w => ?_
  dsimp only [drC]
  refine sx hX [] 4000 rfl (by (simp [-List.getD_eq_getElem?_getD, -List.length_eq_zero_iff, conjP])) ?_
  refine sx hX [.F] 4000 rfl (by (simp [-List.getD_eq_getElem?_getD, -List.length_eq_zero_iff, conjP, addOP])) ?_
  refine sx hX [.F] 4000 rfl (by (simp [-List.getD_eq_getElem?_getD, -List.length_eq_zero_iff, conjP, addOP])) ?_
  refine sx hX [.F] 4000 rfl (by (simp [-List.getD_eq_getElem?_getD, -List.length_eq_zero_iff, conjP, addOP])) ?_
  refine sx hX [.T] 4000 rfl (by (simp [-List.getD_eq_getElem?_getD, -List.length_eq_zero_iff, conjP, getH, HE.so, hr, s0, hst, k1, k9, hpl, en, e9, Int.toNat_natCast, hz] <;> (first | omega | ((repeat' (refine And.intro ?_ ?_)) <;> (first | omega | exact decide_eq_false (by omega) | exact decide_eq_true (by omega)))))) ?_
  refine sx hX [.T] 4000 rfl (by (simp [-List.getD_eq_getElem?_getD, -List.length_eq_zero_iff, conjP, addOP, hst, hpl, en, Int.toNat_natCast, hz, k00])) ?_
  refine sx hX [.F] 4000 rfl (by (simp [-List.getD_eq_getElem?_getD, -List.length_eq_zero_iff, conjP, addOP, hn'])) ?_
  refine sx hX [.K, .F] 4000 rfl (by (simp [-List.getD_eq_getElem?_getD, -List.length_eq_zero_iff, conjP, hst, hpl, en, Int.toNat_natCast, hz, k00])) ?_
  refine sx hX [.K, .K, .T] 4000 rfl (by (simp [-List.getD_eq_getElem?_getD, -List.length_eq_zero_iff, conjP, hst, hpl, en, Int.toNat_natCast, hz])) ?_
  refine sx hX [.F] 4000 rfl (by (simp [-List.getD_eq_getElem?_getD, -List.length_eq_zero_iff, conjP, addOP])) ?_
  refine sx hX [.F] 4000 rfl (by (simp [-List.getD_eq_getElem?_getD, -List.length_eq_zero_iff, conjP, addOP, hn'])) ?_
  refine sx hX [.F] 4000 rfl (by (simp [-List.getD_eq_getElem?_getD, -List.length_eq_zero_iff, conjP, addOP])) ?_
  ((try simp only [hst, hpl, en, ewi, Int.toNat_natCast]); refine ss_end hX [0, 1, 2] rfl rfl trivial rfl rfl rfl rfl ?hv ?hh ?hk ?ho; (case hv => exact clD); (case hh => exact clD); (case hk => exact clD); (case ho => exact clD))
set_option maxHeartbeats 4000000 in
theorem d3cgt1 (P : TPre T R start ⟨false, lg, key, 3, seq, i, fd, hd, tm, 0, (-1), sn, fl, bk, ep, tp, tl⟩ W st) (hk : isK (W.getD (eP (tPl T start i)) 0) = false) (hz : ¬ W.getD (eP (tPl T start i)) 0 = 0) (ht : i + 1 = T) : Dtp T R start ⟨false, lg, key, 3, seq, i, fd, hd, tm, 0, (-1), sn, fl, bk, ep, tp, tl⟩ W st kd wd vl ch ⟨⟨false, lg, key, 4, seq, (i + 1), fd, hd, tm, 0, ((tPl T start i : Nat) : Int), sn, fl, bk, ep, tp, tl⟩, W, 1, (eP (tPl T start i) : Int), W.getD (eP (tPl T start i)) 0, false⟩ (-1) ((tPl T start i : Nat) : Int) := by
  have t1 := P.t1
  have t4 := P.t4
  have r1 := P.r1
  have r8 := P.r8
  have hst : startV (T : Int) 4 1 4 4 1 6 0 R key = (start : Int) := P.hst
  have hl := P.hl
  have s0 := P.s0
  have s1 := P.s1
  have k1 : 1 ≤ key := P.k1
  have k6 : key ≤ 6 := P.k6
  have k9 : key ≤ 2147483647 := by omega
  have q0 : 0 ≤ seq := P.q0
  have q1 : seq < 1000000000 := P.q1
  have f0 : 0 ≤ fd := P.f0
  have f1 : fd < R := P.f1
  have g0 : 0 ≤ fl := P.g0
  have n0 : 0 ≤ sn := P.n0
  have n1 : sn < 18446744073709551616 := P.n1
  have hr := right_TR t1 t4 r1 r8
  have l2 : (2 : Int) < (W.length : Int) := by omega
  have w2 := (P.hw 2).1
  have w2' := (P.hw 2).2
  have ew1 : IntKind.u64.wrap (seq + 1) = seq + 1 := wu64 (by omega) (by omega)
  have ew2 : IntKind.u64.wrap (seq + 2) = seq + 2 := wu64 (by omega) (by omega)
  have ewf : IntKind.i64.wrap (fd + 1) = fd + 1 := wi64 (by omega) (by omega)
  have hX := hXTd
  have hs := P.hs
  have hi : i < T := P.it (by show 3 ≤ 3; omega)
  have hpl := pl_at hs hi t4
  have hpT : tPl T start i < T := tPl_lt t1 i
  generalize hp : tPl T start i = p at *
  have en := ent_at (R := R) hpT
  have e9 := eP_lt' hl hpT
  have c0 := (P.hw (eP p)).1
  have c1 := (P.hw (eP p)).2
  have ewi : IntKind.i64.wrap ((i : Int) + 1) = ((i + 1 : Nat) : Int) := by rw [wi64 (by omega) (by omega)]; omega
  have tz : ¬ (T : Int) = 0 := by omega
  have ht' : IntKind.i64.wrap ((i : Int) + 1) = (T : Int) := by rw [ewi]; omega
  refine gives_x hX (fn := Tryz.f131) rfl rfl rfl rfl fun ρ w => ?_
  dsimp only [drC]
  refine sx hX [] 4000 rfl (by (simp [-List.getD_eq_getElem?_getD, -List.length_eq_zero_iff, conjP])) ?_
  refine sx hX [.F] 4000 rfl (by (simp [-List.getD_eq_getElem?_getD, -List.length_eq_zero_iff, conjP, addOP])) ?_
  refine sx hX [.F] 4000 rfl (by (simp [-List.getD_eq_getElem?_getD, -List.length_eq_zero_iff, conjP, addOP])) ?_
  refine sx hX [.F] 4000 rfl (by (simp [-List.getD_eq_getElem?_getD, -List.length_eq_zero_iff, conjP, addOP])) ?_
  refine sx hX [.T] 4000 rfl (by (simp [-List.getD_eq_getElem?_getD, -List.length_eq_zero_iff, conjP, getH, HE.so, hr, s0, hst, k1, k9, hpl, en, e9, c0, c1, Int.toNat_natCast] <;> (first | omega | ((repeat' (refine And.intro ?_ ?_)) <;> (first | omega | exact decide_eq_false (by omega) | exact decide_eq_true (by omega)))))) ?_
  refine sx hX [.T] 4000 rfl (by (simp [-List.getD_eq_getElem?_getD, -List.length_eq_zero_iff, conjP, addOP, hst, hpl, en, Int.toNat_natCast, hk])) ?_
  refine sx hX [.T] 4000 rfl (by (simp [-List.getD_eq_getElem?_getD, -List.length_eq_zero_iff, conjP, addOP])) ?_
  refine sx hX [.T] 4000 rfl (by (simp [-List.getD_eq_getElem?_getD, -List.length_eq_zero_iff, conjP, addOP])) ?_
  refine sx hX [.K, .F] 4000 rfl (by (simp [-List.getD_eq_getElem?_getD, -List.length_eq_zero_iff, conjP, hst, hpl, en, Int.toNat_natCast, hk])) ?_
  refine sx hX [.K, .K, .F] 4000 rfl (by (simp [-List.getD_eq_getElem?_getD, -List.length_eq_zero_iff, conjP, hst, hpl, en, Int.toNat_natCast, hz])) ?_
  refine sx hX [.T] 4000 rfl (by (simp [-List.getD_eq_getElem?_getD, -List.length_eq_zero_iff, conjP, addOP, ht'])) ?_
  refine sx hX [.F] 4000 rfl (by (simp [-List.getD_eq_getElem?_getD, -List.length_eq_zero_iff, conjP, addOP])) ?_
  refine sx hX [.F] 4000 rfl (by (simp [-List.getD_eq_getElem?_getD, -List.length_eq_zero_iff, conjP, addOP, hst, hpl])) ?_
  refine sx hX [.F] 4000 rfl (by (simp [-List.getD_eq_getElem?_getD, -List.length_eq_zero_iff, conjP, addOP])) ?_
  ((try simp only [hst, hpl, en, ewi, Int.toNat_natCast]); refine ss_end hX [0, 1, 2] rfl rfl trivial rfl rfl rfl rfl ?hv ?hh ?hk ?ho; (case hv => exact clD); (case hh => exact clD); (case hk => exact clD); (case ho => exact clD))
set_option maxHeartbeats 4000000 in
theorem d3cgt2 (P : TPre T R start ⟨false, lg, key, 3, seq, i, fd, hd, tm, 0, pl, sn, fl, bk, ep, tp, tl⟩ W st) (hk : isK (W.getD (eP (tPl T start i)) 0) = false) (hz : ¬ W.getD (eP (tPl T start i)) 0 = 0) (ht : i + 1 = T) (hn : ¬ pl = -1) : Dtp T R start ⟨false, lg, key, 3, seq, i, fd, hd, tm, 0, pl, sn, fl, bk, ep, tp, tl⟩ W st kd wd vl ch ⟨⟨false, lg, key, 4, seq, (i + 1), fd, hd, tm, 0, pl, sn, fl, bk, ep, tp, tl⟩, W, 1, (eP (tPl T start i) : Int), W.getD (eP (tPl T start i)) 0, false⟩ pl pl := by
  have t1 := P.t1
  have t4 := P.t4
  have r1 := P.r1
  have r8 := P.r8
  have hst : startV (T : Int) 4 1 4 4 1 6 0 R key = (start : Int) := P.hst
  have hl := P.hl
  have s0 := P.s0
  have s1 := P.s1
  have k1 : 1 ≤ key := P.k1
  have k6 : key ≤ 6 := P.k6
  have k9 : key ≤ 2147483647 := by omega
  have q0 : 0 ≤ seq := P.q0
  have q1 : seq < 1000000000 := P.q1
  have f0 : 0 ≤ fd := P.f0
  have f1 : fd < R := P.f1
  have g0 : 0 ≤ fl := P.g0
  have n0 : 0 ≤ sn := P.n0
  have n1 : sn < 18446744073709551616 := P.n1
  have hr := right_TR t1 t4 r1 r8
  have l2 : (2 : Int) < (W.length : Int) := by omega
  have w2 := (P.hw 2).1
  have w2' := (P.hw 2).2
  have ew1 : IntKind.u64.wrap (seq + 1) = seq + 1 := wu64 (by omega) (by omega)
  have ew2 : IntKind.u64.wrap (seq + 2) = seq + 2 := wu64 (by omega) (by omega)
  have ewf : IntKind.i64.wrap (fd + 1) = fd + 1 := wi64 (by omega) (by omega)
  have hX := hXTd
  have hs := P.hs
  have hi : i < T := P.it (by show 3 ≤ 3; omega)
  have hpl := pl_at hs hi t4
  have hpT : tPl T start i < T := tPl_lt t1 i
  generalize hp : tPl T start i = p at *
  have en := ent_at (R := R) hpT
  have e9 := eP_lt' hl hpT
  have c0 := (P.hw (eP p)).1
  have c1 := (P.hw (eP p)).2
  have ewi : IntKind.i64.wrap ((i : Int) + 1) = ((i + 1 : Nat) : Int) := by rw [wi64 (by omega) (by omega)]; omega
  have tz : ¬ (T : Int) = 0 := by omega
  have ht' : IntKind.i64.wrap ((i : Int) + 1) = (T : Int) := by rw [ewi]; omega
  have hn' : ¬ pl < 0 := by
    rcases P.pc rfl rfl with e | ⟨q, _, e⟩
    · exact absurd e hn
    · have e : pl = (q : Int) := e
      omega
  refine gives_x hX (fn := Tryz.f131) rfl rfl rfl rfl fun ρ w => ?_
  dsimp only [drC]
  refine sx hX [] 4000 rfl (by (simp [-List.getD_eq_getElem?_getD, -List.length_eq_zero_iff, conjP])) ?_
  refine sx hX [.F] 4000 rfl (by (simp [-List.getD_eq_getElem?_getD, -List.length_eq_zero_iff, conjP, addOP])) ?_
  refine sx hX [.F] 4000 rfl (by (simp [-List.getD_eq_getElem?_getD, -List.length_eq_zero_iff, conjP, addOP])) ?_
  refine sx hX [.F] 4000 rfl (by (simp [-List.getD_eq_getElem?_getD, -List.length_eq_zero_iff, conjP, addOP])) ?_
  refine sx hX [.T] 4000 rfl (by (simp [-List.getD_eq_getElem?_getD, -List.length_eq_zero_iff, conjP, getH, HE.so, hr, s0, hst, k1, k9, hpl, en, e9, c0, c1, Int.toNat_natCast] <;> (first | omega | ((repeat' (refine And.intro ?_ ?_)) <;> (first | omega | exact decide_eq_false (by omega) | exact decide_eq_true (by omega)))))) ?_
  refine sx hX [.T] 4000 rfl (by (simp [-List.getD_eq_getElem?_getD, -List.length_eq_zero_iff, conjP, addOP, hst, hpl, en, Int.toNat_natCast, hk])) ?_
  refine sx hX [.F] 4000 rfl (by (simp [-List.getD_eq_getElem?_getD, -List.length_eq_zero_iff, conjP, addOP, hn'])) ?_
  refine sx hX [.K, .F] 4000 rfl (by (simp [-List.getD_eq_getElem?_getD, -List.length_eq_zero_iff, conjP, hst, hpl, en, Int.toNat_natCast, hk])) ?_
  refine sx hX [.K, .K, .F] 4000 rfl (by (simp [-List.getD_eq_getElem?_getD, -List.length_eq_zero_iff, conjP, hst, hpl, en, Int.toNat_natCast, hz])) ?_
  refine sx hX [.T] 4000 rfl (by (simp [-List.getD_eq_getElem?_getD, -List.length_eq_zero_iff, conjP, addOP, ht'])) ?_
  refine sx hX [.F] 4000 rfl (by (simp [-List.getD_eq_getElem?_getD, -List.length_eq_zero_iff, conjP, addOP])) ?_
  refine sx hX [.F] 4000 rfl (by (simp [-List.getD_eq_getElem?_getD, -List.length_eq_zero_iff, conjP, addOP, hn'])) ?_
  refine sx hX [.F] 4000 rfl (by (simp [-List.getD_eq_getElem?_getD, -List.length_eq_zero_iff, conjP, addOP])) ?_
  ((try simp only [hst, hpl, en, ewi, Int.toNat_natCast]); refine ss_end hX [0, 1, 2] rfl rfl trivial rfl rfl rfl rfl ?hv ?hh ?hk ?ho; (case hv => exact clD); (case hh => exact clD); (case hk => exact clD); (case ho => exact clD))
set_option maxHeartbeats 4000000 in
theorem d3rntt (P : TPre T R start ⟨true, lg, key, 3, seq, i, fd, hd, tm, 0, pl, sn, fl, bk, ep, tp, tl⟩ W st) (hk : isK (W.getD (eP (tPl T start i)) 0) = true) (hf : ¬ W.getD (eP (tPl T start i)) 0 / 4 = key) (ht : i + 1 = T) : Dtp T R start ⟨true, lg, key, 3, seq, i, fd, hd, tm, 0, pl, sn, fl, bk, ep, tp, tl⟩ W st kd wd vl ch ⟨⟨true, lg, key, 7, seq, (i + 1), fd, hd, (st + 1), 12, pl, sn, fl, bk, ep, tp, tl⟩, W, 1, (eP (tPl T start i) : Int), W.getD (eP (tPl T start i)) 0, false⟩ (-1) ((tPl T start i : Nat) : Int) := by
  have t1 := P.t1
  have t4 := P.t4
  have r1 := P.r1
  have r8 := P.r8
  have hst : startV (T : Int) 4 1 4 4 1 6 0 R key = (start : Int) := P.hst
  have hl := P.hl
  have s0 := P.s0
  have s1 := P.s1
  have k1 : 1 ≤ key := P.k1
  have k6 : key ≤ 6 := P.k6
  have k9 : key ≤ 2147483647 := by omega
  have q0 : 0 ≤ seq := P.q0
  have q1 : seq < 1000000000 := P.q1
  have f0 : 0 ≤ fd := P.f0
  have f1 : fd < R := P.f1
  have g0 : 0 ≤ fl := P.g0
  have n0 : 0 ≤ sn := P.n0
  have n1 : sn < 18446744073709551616 := P.n1
  have hr := right_TR t1 t4 r1 r8
  have l2 : (2 : Int) < (W.length : Int) := by omega
  have w2 := (P.hw 2).1
  have w2' := (P.hw 2).2
  have ew1 : IntKind.u64.wrap (seq + 1) = seq + 1 := wu64 (by omega) (by omega)
  have ew2 : IntKind.u64.wrap (seq + 2) = seq + 2 := wu64 (by omega) (by omega)
  have ewf : IntKind.i64.wrap (fd + 1) = fd + 1 := wi64 (by omega) (by omega)
  have hX := hXTd
  have hs := P.hs
  have hi : i < T := P.it (by show 3 ≤ 3; omega)
  have hpl := pl_at hs hi t4
  have hpT : tPl T start i < T := tPl_lt t1 i
  generalize hp : tPl T start i = p at *
  have en := ent_at (R := R) hpT
  have e9 := eP_lt' hl hpT
  have c0 := (P.hw (eP p)).1
  have c1 := (P.hw (eP p)).2
  have ewi : IntKind.i64.wrap ((i : Int) + 1) = ((i + 1 : Nat) : Int) := by rw [wi64 (by omega) (by omega)]; omega
  have tz : ¬ (T : Int) = 0 := by omega
  have ky : kyW (W.getD (eP p) 0) = W.getD (eP p) 0 / 4 := by unfold kyW; rw [if_pos hk]
  have hz : ¬ W.getD (eP p) 0 = 0 := (isK_ne hk).1
  have hf' : ¬ kyW (W.getD (eP p) 0) = key := by rw [ky]; exact hf
  have ht' : IntKind.i64.wrap ((i : Int) + 1) = (T : Int) := by rw [ewi]; omega
  refine gives_x hX (fn := Tryz.f131) rfl rfl rfl rfl fun ρ w => ?_
  dsimp only [drC]
  refine sx hX [] 4000 rfl (by (simp [-List.getD_eq_getElem?_getD, -List.length_eq_zero_iff, conjP])) ?_
  refine sx hX [.F] 4000 rfl (by (simp [-List.getD_eq_getElem?_getD, -List.length_eq_zero_iff, conjP, addOP])) ?_
  refine sx hX [.F] 4000 rfl (by (simp [-List.getD_eq_getElem?_getD, -List.length_eq_zero_iff, conjP, addOP])) ?_
  refine sx hX [.F] 4000 rfl (by (simp [-List.getD_eq_getElem?_getD, -List.length_eq_zero_iff, conjP, addOP])) ?_
  refine sx hX [.T] 4000 rfl (by (simp [-List.getD_eq_getElem?_getD, -List.length_eq_zero_iff, conjP, getH, HE.so, hr, s0, hst, k1, k9, hpl, en, e9, c0, c1, Int.toNat_natCast] <;> (first | omega | ((repeat' (refine And.intro ?_ ?_)) <;> (first | omega | exact decide_eq_false (by omega) | exact decide_eq_true (by omega)))))) ?_
  refine sx hX [.F] 4000 rfl (by (simp [-List.getD_eq_getElem?_getD, -List.length_eq_zero_iff, conjP, addOP, hst, hpl, en, Int.toNat_natCast, hk])) ?_
  refine sx hX [.K, .T] 4000 rfl (by (simp [-List.getD_eq_getElem?_getD, -List.length_eq_zero_iff, conjP, hst, hpl, en, Int.toNat_natCast, hk])) ?_
  refine sx hX [.K, .F, .K, .K, .F] 4000 rfl (by (simp [-List.getD_eq_getElem?_getD, -List.length_eq_zero_iff, conjP, hst, hpl, en, Int.toNat_natCast, hz, hf'])) ?_
  refine sx hX [.T] 4000 rfl (by (simp [-List.getD_eq_getElem?_getD, -List.length_eq_zero_iff, conjP, addOP, ht'])) ?_
  refine sx hX [.T] 4000 rfl (by (simp [-List.getD_eq_getElem?_getD, -List.length_eq_zero_iff, conjP, addOP])) ?_
  refine sx hX [.T] 4000 rfl (by (simp [-List.getD_eq_getElem?_getD, -List.length_eq_zero_iff, conjP, addOP, hst, hpl, en, Int.toNat_natCast, hf'])) ?_
  ((try simp only [hst, hpl, en, ewi, Int.toNat_natCast]); refine ss_end hX [0, 1, 2] rfl rfl trivial rfl rfl rfl rfl ?hv ?hh ?hk ?ho; (case hv => exact clD); (case hh => exact clD); (case hk => exact clD); (case ho => exact clD))
set_option maxHeartbeats 4000000 in
theorem d3rntn (P : TPre T R start ⟨true, lg, key, 3, seq, i, fd, hd, tm, 0, pl, sn, fl, bk, ep, tp, tl⟩ W st) (hk : isK (W.getD (eP (tPl T start i)) 0) = true) (hf : ¬ W.getD (eP (tPl T start i)) 0 / 4 = key) (ht : ¬ i + 1 = T) : Dtp T R start ⟨true, lg, key, 3, seq, i, fd, hd, tm, 0, pl, sn, fl, bk, ep, tp, tl⟩ W st kd wd vl ch ⟨⟨true, lg, key, 3, seq, (i + 1), fd, hd, tm, 0, pl, sn, fl, bk, ep, tp, tl⟩, W, 1, (eP (tPl T start i) : Int), W.getD (eP (tPl T start i)) 0, false⟩ (-1) (-1) := by
  have t1 := P.t1
  have t4 := P.t4
  have r1 := P.r1
  have r8 := P.r8
  have hst : startV (T : Int) 4 1 4 4 1 6 0 R key = (start : Int) := P.hst
  have hl := P.hl
  have s0 := P.s0
  have s1 := P.s1
  have k1 : 1 ≤ key := P.k1
  have k6 : key ≤ 6 := P.k6
  have k9 : key ≤ 2147483647 := by omega
  have q0 : 0 ≤ seq := P.q0
  have q1 : seq < 1000000000 := P.q1
  have f0 : 0 ≤ fd := P.f0
  have f1 : fd < R := P.f1
  have g0 : 0 ≤ fl := P.g0
  have n0 : 0 ≤ sn := P.n0
  have n1 : sn < 18446744073709551616 := P.n1
  have hr := right_TR t1 t4 r1 r8
  have l2 : (2 : Int) < (W.length : Int) := by omega
  have w2 := (P.hw 2).1
  have w2' := (P.hw 2).2
  have ew1 : IntKind.u64.wrap (seq + 1) = seq + 1 := wu64 (by omega) (by omega)
  have ew2 : IntKind.u64.wrap (seq + 2) = seq + 2 := wu64 (by omega) (by omega)
  have ewf : IntKind.i64.wrap (fd + 1) = fd + 1 := wi64 (by omega) (by omega)
  have hX := hXTd
  have hs := P.hs
  have hi : i < T := P.it (by show 3 ≤ 3; omega)
  have hpl := pl_at hs hi t4
  have hpT : tPl T start i < T := tPl_lt t1 i
  generalize hp : tPl T start i = p at *
  have en := ent_at (R := R) hpT
  have e9 := eP_lt' hl hpT
  have c0 := (P.hw (eP p)).1
  have c1 := (P.hw (eP p)).2
  have ewi : IntKind.i64.wrap ((i : Int) + 1) = ((i + 1 : Nat) : Int) := by rw [wi64 (by omega) (by omega)]; omega
  have tz : ¬ (T : Int) = 0 := by omega
  have ky : kyW (W.getD (eP p) 0) = W.getD (eP p) 0 / 4 := by unfold kyW; rw [if_pos hk]
  have hz : ¬ W.getD (eP p) 0 = 0 := (isK_ne hk).1
  have hf' : ¬ kyW (W.getD (eP p) 0) = key := by rw [ky]; exact hf
  have ht' : ¬ IntKind.i64.wrap ((i : Int) + 1) = (T : Int) := by rw [ewi]; omega
  refine gives_x hX (fn := Tryz.f131) rfl rfl rfl rfl fun ρ w => ?_
  dsimp only [drC]
  refine sx hX [] 4000 rfl (by (simp [-List.getD_eq_getElem?_getD, -List.length_eq_zero_iff, conjP])) ?_
  refine sx hX [.F] 4000 rfl (by (simp [-List.getD_eq_getElem?_getD, -List.length_eq_zero_iff, conjP, addOP])) ?_
  refine sx hX [.F] 4000 rfl (by (simp [-List.getD_eq_getElem?_getD, -List.length_eq_zero_iff, conjP, addOP])) ?_
  refine sx hX [.F] 4000 rfl (by (simp [-List.getD_eq_getElem?_getD, -List.length_eq_zero_iff, conjP, addOP])) ?_
  refine sx hX [.T] 4000 rfl (by (simp [-List.getD_eq_getElem?_getD, -List.length_eq_zero_iff, conjP, getH, HE.so, hr, s0, hst, k1, k9, hpl, en, e9, c0, c1, Int.toNat_natCast] <;> (first | omega | ((repeat' (refine And.intro ?_ ?_)) <;> (first | omega | exact decide_eq_false (by omega) | exact decide_eq_true (by omega)))))) ?_
  refine sx hX [.F] 4000 rfl (by (simp [-List.getD_eq_getElem?_getD, -List.length_eq_zero_iff, conjP, addOP, hst, hpl, en, Int.toNat_natCast, hk])) ?_
  refine sx hX [.K, .T] 4000 rfl (by (simp [-List.getD_eq_getElem?_getD, -List.length_eq_zero_iff, conjP, hst, hpl, en, Int.toNat_natCast, hk])) ?_
  refine sx hX [.K, .F, .K, .K, .F] 4000 rfl (by (simp [-List.getD_eq_getElem?_getD, -List.length_eq_zero_iff, conjP, hst, hpl, en, Int.toNat_natCast, hz, hf'])) ?_
  refine sx hX [.F] 4000 rfl (by (simp [-List.getD_eq_getElem?_getD, -List.length_eq_zero_iff, conjP, addOP, ht'])) ?_
  ((try simp only [hst, hpl, en, ewi, Int.toNat_natCast]); refine ss_end hX [0, 1, 2] rfl rfl trivial rfl rfl rfl rfl ?hv ?hh ?hk ?ho; (case hv => exact clD); (case hh => exact clD); (case hk => exact clD); (case ho => exact clD))
set_option maxHeartbeats 4000000 in
theorem d3rnfz (P : TPre T R start ⟨true, lg, key, 3, seq, i, fd, hd, tm, 0, pl, sn, fl, bk, ep, tp, tl⟩ W st) (_hk : isK (W.getD (eP (tPl T start i)) 0) = false) (hz : W.getD (eP (tPl T start i)) 0 = 0) : Dtp T R start ⟨true, lg, key, 3, seq, i, fd, hd, tm, 0, pl, sn, fl, bk, ep, tp, tl⟩ W st kd wd vl ch ⟨⟨true, lg, key, 7, seq, (i + 1), fd, hd, (st + 1), 12, pl, sn, fl, bk, ep, tp, tl⟩, W, 1, (eP (tPl T start i) : Int), W.getD (eP (tPl T start i)) 0, false⟩ (-1) ((tPl T start i : Nat) : Int) := by
  have t1 := P.t1
  have t4 := P.t4
  have r1 := P.r1
  have r8 := P.r8
  have hst : startV (T : Int) 4 1 4 4 1 6 0 R key = (start : Int) := P.hst
  have hl := P.hl
  have s0 := P.s0
  have s1 := P.s1
  have k1 : 1 ≤ key := P.k1
  have k6 : key ≤ 6 := P.k6
  have k9 : key ≤ 2147483647 := by omega
  have q0 : 0 ≤ seq := P.q0
  have q1 : seq < 1000000000 := P.q1
  have f0 : 0 ≤ fd := P.f0
  have f1 : fd < R := P.f1
  have g0 : 0 ≤ fl := P.g0
  have n0 : 0 ≤ sn := P.n0
  have n1 : sn < 18446744073709551616 := P.n1
  have hr := right_TR t1 t4 r1 r8
  have l2 : (2 : Int) < (W.length : Int) := by omega
  have w2 := (P.hw 2).1
  have w2' := (P.hw 2).2
  have ew1 : IntKind.u64.wrap (seq + 1) = seq + 1 := wu64 (by omega) (by omega)
  have ew2 : IntKind.u64.wrap (seq + 2) = seq + 2 := wu64 (by omega) (by omega)
  have ewf : IntKind.i64.wrap (fd + 1) = fd + 1 := wi64 (by omega) (by omega)
  have hX := hXTd
  have hs := P.hs
  have hi : i < T := P.it (by show 3 ≤ 3; omega)
  have hpl := pl_at hs hi t4
  have hpT : tPl T start i < T := tPl_lt t1 i
  generalize hp : tPl T start i = p at *
  have en := ent_at (R := R) hpT
  have e9 := eP_lt' hl hpT
  have c0 := (P.hw (eP p)).1
  have c1 := (P.hw (eP p)).2
  have ewi : IntKind.i64.wrap ((i : Int) + 1) = ((i + 1 : Nat) : Int) := by rw [wi64 (by omega) (by omega)]; omega
  have tz : ¬ (T : Int) = 0 := by omega
  have k00 : isK 0 = false := by decide
  refine gives_x hX (fn := Tryz.f131) rfl rfl rfl rfl fun ρ w => ?_
  dsimp only [drC]
  refine sx hX [] 4000 rfl (by (simp [-List.getD_eq_getElem?_getD, -List.length_eq_zero_iff, conjP])) ?_
  refine sx hX [.F] 4000 rfl (by (simp [-List.getD_eq_getElem?_getD, -List.length_eq_zero_iff, conjP, addOP])) ?_
  refine sx hX [.F] 4000 rfl (by (simp [-List.getD_eq_getElem?_getD, -List.length_eq_zero_iff, conjP, addOP])) ?_
  refine sx hX [.F] 4000 rfl (by (simp [-List.getD_eq_getElem?_getD, -List.length_eq_zero_iff, conjP, addOP])) ?_
  refine sx hX [.T] 4000 rfl (by (simp [-List.getD_eq_getElem?_getD, -List.length_eq_zero_iff, conjP, getH, HE.so, hr, s0, hst, k1, k9, hpl, en, e9, Int.toNat_natCast, hz] <;> (first | omega | ((repeat' (refine And.intro ?_ ?_)) <;> (first | omega | exact decide_eq_false (by omega) | exact decide_eq_true (by omega)))))) ?_
  refine sx hX [.T] 4000 rfl (by (simp [-List.getD_eq_getElem?_getD, -List.length_eq_zero_iff, conjP, addOP, hst, hpl, en, Int.toNat_natCast, hz, k00])) ?_
  refine sx hX [.T] 4000 rfl (by (simp [-List.getD_eq_getElem?_getD, -List.length_eq_zero_iff, conjP, addOP])) ?_
  refine sx hX [.F] 4000 rfl (by (simp [-List.getD_eq_getElem?_getD, -List.length_eq_zero_iff, conjP, addOP])) ?_
  refine sx hX [.K, .F] 4000 rfl (by (simp [-List.getD_eq_getElem?_getD, -List.length_eq_zero_iff, conjP, hst, hpl, en, Int.toNat_natCast, hz, k00])) ?_
  refine sx hX [.K, .K, .T] 4000 rfl (by (simp [-List.getD_eq_getElem?_getD, -List.length_eq_zero_iff, conjP, hst, hpl, en, Int.toNat_natCast, hz])) ?_
  refine sx hX [.T] 4000 rfl (by (simp [-List.getD_eq_getElem?_getD, -List.length_eq_zero_iff, conjP, addOP])) ?_
  ((try simp only [hst, hpl, en, ewi, Int.toNat_natCast]); refine ss_end hX [0, 1, 2] rfl rfl trivial rfl rfl rfl rfl ?hv ?hh ?hk ?ho; (case hv => exact clD); (case hh => exact clD); (case hk => exact clD); (case ho => exact clD))
set_option maxHeartbeats 4000000 in
theorem d3rnft (P : TPre T R start ⟨true, lg, key, 3, seq, i, fd, hd, tm, 0, pl, sn, fl, bk, ep, tp, tl⟩ W st) (hk : isK (W.getD (eP (tPl T start i)) 0) = false) (hz : ¬ W.getD (eP (tPl T start i)) 0 = 0) (ht : i + 1 = T) : Dtp T R start ⟨true, lg, key, 3, seq, i, fd, hd, tm, 0, pl, sn, fl, bk, ep, tp, tl⟩ W st kd wd vl ch ⟨⟨true, lg, key, 7, seq, (i + 1), fd, hd, (st + 1), 12, pl, sn, fl, bk, ep, tp, tl⟩, W, 1, (eP (tPl T start i) : Int), W.getD (eP (tPl T start i)) 0, false⟩ (-1) ((tPl T start i : Nat) : Int) := by
  have t1 := P.t1
  have t4 := P.t4
  have r1 := P.r1
  have r8 := P.r8
  have hst : startV (T : Int) 4 1 4 4 1 6 0 R key = (start : Int) := P.hst
  have hl := P.hl
  have s0 := P.s0
  have s1 := P.s1
  have k1 : 1 ≤ key := P.k1
  have k6 : key ≤ 6 := P.k6
  have k9 : key ≤ 2147483647 := by omega
  have q0 : 0 ≤ seq := P.q0
  have q1 : seq < 1000000000 := P.q1
  have f0 : 0 ≤ fd := P.f0
  have f1 : fd < R := P.f1
  have g0 : 0 ≤ fl := P.g0
  have n0 : 0 ≤ sn := P.n0
  have n1 : sn < 18446744073709551616 := P.n1
  have hr := right_TR t1 t4 r1 r8
  have l2 : (2 : Int) < (W.length : Int) := by omega
  have w2 := (P.hw 2).1
  have w2' := (P.hw 2).2
  have ew1 : IntKind.u64.wrap (seq + 1) = seq + 1 := wu64 (by omega) (by omega)
  have ew2 : IntKind.u64.wrap (seq + 2) = seq + 2 := wu64 (by omega) (by omega)
  have ewf : IntKind.i64.wrap (fd + 1) = fd + 1 := wi64 (by omega) (by omega)
  have hX := hXTd
  have hs := P.hs
  have hi : i < T := P.it (by show 3 ≤ 3; omega)
  have hpl := pl_at hs hi t4
  have hpT : tPl T start i < T := tPl_lt t1 i
  generalize hp : tPl T start i = p at *
  have en := ent_at (R := R) hpT
  have e9 := eP_lt' hl hpT
  have c0 := (P.hw (eP p)).1
  have c1 := (P.hw (eP p)).2
  have ewi : IntKind.i64.wrap ((i : Int) + 1) = ((i + 1 : Nat) : Int) := by rw [wi64 (by omega) (by omega)]; omega
  have tz : ¬ (T : Int) = 0 := by omega
  have ht' : IntKind.i64.wrap ((i : Int) + 1) = (T : Int) := by rw [ewi]; omega
  refine gives_x hX (fn := Tryz.f131) rfl rfl rfl rfl fun ρ w => ?_
  dsimp only [drC]
  refine sx hX [] 4000 rfl (by (simp [-List.getD_eq_getElem?_getD, -List.length_eq_zero_iff, conjP])) ?_
  refine sx hX [.F] 4000 rfl (by (simp [-List.getD_eq_getElem?_getD, -List.length_eq_zero_iff, conjP, addOP])) ?_
  refine sx hX [.F] 4000 rfl (by (simp [-List.getD_eq_getElem?_getD, -List.length_eq_zero_iff, conjP, addOP])) ?_
  refine sx hX [.F] 4000 rfl (by (simp [-List.getD_eq_getElem?_getD, -List.length_eq_zero_iff, conjP, addOP])) ?_
  refine sx hX [.T] 4000 rfl (by (simp [-List.getD_eq_getElem?_getD, -List.length_eq_zero_iff, conjP, getH, HE.so, hr, s0, hst, k1, k9, hpl, en, e9, c0, c1, Int.toNat_natCast] <;> (first | omega | ((repeat' (refine And.intro ?_ ?_)) <;> (first | omega | exact decide_eq_false (by omega) | exact decide_eq_true (by omega)))))) ?_
  refine sx hX [.T] 4000 rfl (by (simp [-List.getD_eq_getElem?_getD, -List.length_eq_zero_iff, conjP, addOP, hst, hpl, en, Int.toNat_natCast, hk])) ?_
  refine sx hX [.T] 4000 rfl (by (simp [-List.getD_eq_getElem?_getD, -List.length_eq_zero_iff, conjP, addOP])) ?_
  refine sx hX [.F] 4000 rfl (by (simp [-List.getD_eq_getElem?_getD, -List.length_eq_zero_iff, conjP, addOP])) ?_
  refine sx hX [.K, .F] 4000 rfl (by (simp [-List.getD_eq_getElem?_getD, -List.length_eq_zero_iff, conjP, hst, hpl, en, Int.toNat_natCast, hk])) ?_
  refine sx hX [.K, .K, .F] 4000 rfl (by (simp [-List.getD_eq_getElem?_getD, -List.length_eq_zero_iff, conjP, hst, hpl, en, Int.toNat_natCast, hz])) ?_
  refine sx hX [.T] 4000 rfl (by (simp [-List.getD_eq_getElem?_getD, -List.length_eq_zero_iff, conjP, addOP, ht'])) ?_
  refine sx hX [.T] 4000 rfl (by (simp [-List.getD_eq_getElem?_getD, -List.length_eq_zero_iff, conjP, addOP])) ?_
  ((try simp only [hst, hpl, en, ewi, Int.toNat_natCast]); refine ss_end hX [0, 1, 2] rfl rfl trivial rfl rfl rfl rfl ?hv ?hh ?hk ?ho; (case hv => exact clD); (case hh => exact clD); (case hk => exact clD); (case ho => exact clD))
set_option maxHeartbeats 4000000 in
theorem d3rnfn (P : TPre T R start ⟨true, lg, key, 3, seq, i, fd, hd, tm, 0, pl, sn, fl, bk, ep, tp, tl⟩ W st) (hk : isK (W.getD (eP (tPl T start i)) 0) = false) (hz : ¬ W.getD (eP (tPl T start i)) 0 = 0) (ht : ¬ i + 1 = T) : Dtp T R start ⟨true, lg, key, 3, seq, i, fd, hd, tm, 0, pl, sn, fl, bk, ep, tp, tl⟩ W st kd wd vl ch ⟨⟨true, lg, key, 3, seq, (i + 1), fd, hd, tm, 0, pl, sn, fl, bk, ep, tp, tl⟩, W, 1, (eP (tPl T start i) : Int), W.getD (eP (tPl T start i)) 0, false⟩ (-1) (-1) := by
  have t1 := P.t1
  have t4 := P.t4
  have r1 := P.r1
  have r8 := P.r8
  have hst : startV (T : Int) 4 1 4 4 1 6 0 R key = (start : Int) := P.hst
  have hl := P.hl
  have s0 := P.s0
  have s1 := P.s1
  have k1 : 1 ≤ key := P.k1
  have k6 : key ≤ 6 := P.k6
  have k9 : key ≤ 2147483647 := by omega
  have q0 : 0 ≤ seq := P.q0
  have q1 : seq < 1000000000 := P.q1
  have f0 : 0 ≤ fd := P.f0
  have f1 : fd < R := P.f1
  have g0 : 0 ≤ fl := P.g0
  have n0 : 0 ≤ sn := P.n0
  have n1 : sn < 18446744073709551616 := P.n1
  have hr := right_TR t1 t4 r1 r8
  have l2 : (2 : Int) < (W.length : Int) := by omega
  have w2 := (P.hw 2).1
  have w2' := (P.hw 2).2
  have ew1 : IntKind.u64.wrap (seq + 1) = seq + 1 := wu64 (by omega) (by omega)
  have ew2 : IntKind.u64.wrap (seq + 2) = seq + 2 := wu64 (by omega) (by omega)
  have ewf : IntKind.i64.wrap (fd + 1) = fd + 1 := wi64 (by omega) (by omega)
  have hX := hXTd
  have hs := P.hs
  have hi : i < T := P.it (by show 3 ≤ 3; omega)
  have hpl := pl_at hs hi t4
  have hpT : tPl T start i < T := tPl_lt t1 i
  generalize hp : tPl T start i = p at *
  have en := ent_at (R := R) hpT
  have e9 := eP_lt' hl hpT
  have c0 := (P.hw (eP p)).1
  have c1 := (P.hw (eP p)).2
  have ewi : IntKind.i64.wrap ((i : Int) + 1) = ((i + 1 : Nat) : Int) := by rw [wi64 (by omega) (by omega)]; omega
  have tz : ¬ (T : Int) = 0 := by omega
  have ht' : ¬ IntKind.i64.wrap ((i : Int) + 1) = (T : Int) := by rw [ewi]; omega
  refine gives_x hX (fn := Tryz.f131) rfl rfl rfl rfl fun ρ w => ?_
  dsimp only [drC]
  refine sx hX [] 4000 rfl (by (simp [-List.getD_eq_getElem?_getD, -List.length_eq_zero_iff, conjP])) ?_
  refine sx hX [.F] 4000 rfl (by (simp [-List.getD_eq_getElem?_getD, -List.length_eq_zero_iff, conjP, addOP])) ?_
  refine sx hX [.F] 4000 rfl (by (simp [-List.getD_eq_getElem?_getD, -List.length_eq_zero_iff, conjP, addOP])) ?_
  refine sx hX [.F] 4000 rfl (by (simp [-List.getD_eq_getElem?_getD, -List.length_eq_zero_iff, conjP, addOP])) ?_
  refine sx hX [.T] 4000 rfl (by (simp [-List.getD_eq_getElem?_getD, -List.length_eq_zero_iff, conjP, getH, HE.so, hr, s0, hst, k1, k9, hpl, en, e9, c0, c1, Int.toNat_natCast] <;> (first | omega | ((repeat' (refine And.intro ?_ ?_)) <;> (first | omega | exact decide_eq_false (by omega) | exact decide_eq_true (by omega)))))) ?_
  refine sx hX [.T] 4000 rfl (by (simp [-List.getD_eq_getElem?_getD, -List.length_eq_zero_iff, conjP, addOP, hst, hpl, en, Int.toNat_natCast, hk])) ?_
  refine sx hX [.T] 4000 rfl (by (simp [-List.getD_eq_getElem?_getD, -List.length_eq_zero_iff, conjP, addOP])) ?_
  refine sx hX [.F] 4000 rfl (by (simp [-List.getD_eq_getElem?_getD, -List.length_eq_zero_iff, conjP, addOP])) ?_
  refine sx hX [.K, .F] 4000 rfl (by (simp [-List.getD_eq_getElem?_getD, -List.length_eq_zero_iff, conjP, hst, hpl, en, Int.toNat_natCast, hk])) ?_
  refine sx hX [.K, .K, .F] 4000 rfl (by (simp [-List.getD_eq_getElem?_getD, -List.length_eq_zero_iff, conjP, hst, hpl, en, Int.toNat_natCast, hz])) ?_
  refine sx hX [.F] 4000 rfl (by (simp [-List.getD_eq_getElem?_getD, -List.length_eq_zero_iff, conjP, addOP, ht'])) ?_
  ((try simp only [hst, hpl, en, ewi, Int.toNat_natCast]); refine ss_end hX [0, 1, 2] rfl rfl trivial rfl rfl rfl rfl ?hv ?hh ?hk ?ho; (case hv => exact clD); (case hh => exact clD); (case hk => exact clD); (case ho => exact clD))
end
end Go.Proofs.YtkkddjchkkaagaaGreatDoor
