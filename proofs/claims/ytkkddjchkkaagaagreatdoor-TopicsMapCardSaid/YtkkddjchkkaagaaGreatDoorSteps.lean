/- The steps of runs that create and remove topics, told by the law's function. -/
import Derived.Test.YtkkddjchkkaagaaGreatDoorDirLaw
import Derived.Test.YtkkddjchkkaagaaGreatDoorArenaSteps
namespace Go.Proofs.YtkkddjchkkaagaaGreatDoor
open Go Go.Hx
set_option maxRecDepth 8000
/-- What is next; hr: the run, hh: what holds. -/
def nxV (rm : Bool) (ph hr hh : Nat) : SV :=
  match ph with
  | 0 => .nilfunc
  | 1 => .func (Fn.func 125) [.ptr hh 0] []
  | 2 => .func (Fn.func 156) [.ptr hh 0] []
  | 3 => bif rm then .func (Fn.func 126) [.ptr hr 0] [] else .func (Fn.func 128) [.ptr hr 0] []
  | 4 => bif rm then .func (Fn.func 159) [.ptr hr 0] [] else .func (Fn.func 161) [.ptr hr 0] []
  | 5 => bif rm then .func (Fn.func 179) [.ptr hr 0] [] else .func (Fn.func 182) [.ptr hr 0] []
  | 6 => bif rm then .func (Fn.func 198) [.ptr hr 0] [] else .func (Fn.func 200) [.ptr hr 0] []
  | _ => .func (Fn.func 181) [.ptr hh 0] []
def hlV (rm : Bool) (hr : Nat) : SV := bif rm then .func (Fn.func 126) [.ptr hr 0] [] else .func (Fn.func 128) [.ptr hr 0] []
abbrev erO (c : Int) : SV := .iface 35 (.int .i64 c)
def erV (e : Int) : SV := if e = 0 then .niliface else erO e
def hoC (T R : Int) (hr hh : Nat) (s : TS) : SO := .cells [.int .i64 T, .int .i64 4, .int .i64 1, .int .i64 4, .int .i64 4, .int .i64 1, .int .i64 6, .int .i64 0, .int .i64 R, .int .i64 s.key, nxV s.rm s.ph hr hh, hlV s.rm hr, .int .u64 s.seq, .int .i64 (s.i : Int), .int .i64 s.fd, .bool s.hd, .int .i64 s.tm, erV s.er] 168
def ruC (hh : Nat) (s : TS) : SO := bif s.rm then .cells [.ptr hh 0, .int .i64 s.pl, .int .i64 s.fl, .int .u64 s.sn, .int .i64 s.bk] 166 else .cells [.ptr hh 0, .bool s.lg, .int .i64 s.pl, .int .u64 s.sn, .int .i64 s.tp, .int .i64 s.ep, .bool s.tl] 164
theorem ren_erV {e : Int} {σ : Nat → Nat} : (erV e).ren σ = erV e := by unfold erV; split <;> rfl
theorem sim_erV {e : Int} {σ : Nat → Nat} : sim (erV e) ((erV e).ren σ) := by rw [ren_erV]; exact sim_refl _
theorem okP_erV {e : Int} {A : Nat → Bool} : okP A (erV e) := by unfold erV; split <;> trivial
theorem clS {P : Prop} (h : P := by repeat' (first | exact rfl | exact trivial | exact sim_refl _ | exact sim_erV | exact okP_erV | refine And.intro ?_ ?_)) : P := h
/-- What must be so ahead of a step. -/
structure TPre (T : Nat) (R : Int) (start : Nat) (s : TS) (W : List Int) (st : Int) : Prop where
  t1 : 1 ≤ T
  t4 : T ≤ 4
  r1 : 1 ≤ R
  r8 : R ≤ 8
  hst : startV (T : Int) 4 1 4 4 1 6 0 R s.key = (start : Int)
  hs : start < T
  hl : W.length = 11 + 10 * T
  hw : ∀ j, 0 ≤ W.getD j 0 ∧ W.getD j 0 < 18446744073709551616
  s0 : 0 ≤ st
  s1 : st < 1000000
  k1 : 1 ≤ s.key
  k6 : s.key ≤ 6
  p1 : 1 ≤ s.ph
  p7 : s.ph ≤ 7
  e0 : s.ph ≤ 6 → s.er = 0
  q0 : 0 ≤ s.seq
  q1 : s.seq < 1000000000
  f0 : 0 ≤ s.fd
  f1 : s.fd < R
  g0 : 0 ≤ s.fl
  g1 : s.ph ≤ 6 → s.fl < R
  it : s.ph ≤ 3 → s.i < T
  n0 : 0 ≤ s.sn
  n1 : s.sn < 18446744073709551616
  pc : s.rm = false → s.ph = 3 → s.pl = -1 ∨ ∃ p : Nat, p < T ∧ s.pl = (p : Int)
  pe : 4 ≤ s.ph → s.ph ≤ 6 → ∃ p : Nat, p < T ∧ s.pl = (p : Int)
theorem right_TR {T : Nat} {R : Int} (t1 : 1 ≤ T) (t4 : T ≤ 4) (r1 : 1 ≤ R) (r8 : R ≤ 8) : rightB (T : Int) 4 1 4 4 1 6 0 R = true := right_iff.2 (by omega)
theorem ent_at {T p : Nat} {R : Int} (h : p < T) : entryF (T : Int) 4 1 4 4 1 6 0 R (p : Int) = ((eP p : Nat) : Int) := by
  unfold entryF entryV eP
  simp
  omega
theorem ctl_at {T p : Nat} {R : Int} (h : p < T) : ctlF (T : Int) 4 1 4 4 1 6 0 R (p : Int) = ((cP T p : Nat) : Int) := by
  unfold ctlF ctlV cP
  simp
  omega
theorem pl_at {T start i : Nat} (hs : start < T) (hi : i < T) (t4 : T ≤ 4) : (IntKind.i64.wrap ((start : Int) + (i : Int))).tmod (T : Int) = ((tPl T start i : Nat) : Int) := by
  rw [wi64 (by omega) (by omega), Int.tmod_eq_emod_of_nonneg (by omega)]
  show _ = (((start + i) % T : Nat) : Int)
  rw [Int.natCast_emod, Int.natCast_add]
theorem eP_lt' {T p : Nat} {W : List Int} (hl : W.length = 11 + 10 * T) (h : p < T) : ((eP p : Nat) : Int) < (W.length : Int) := by unfold eP; omega
theorem cP_lt' {T p : Nat} {W : List Int} (hl : W.length = 11 + 10 * T) (h : p < T) : ((cP T p : Nat) : Int) < (W.length : Int) := by unfold cP; omega
theorem two_nat : Int.toNat 2 = 2 := rfl
def ctTs : Nat → Option Hx.Spec
  | 29 => some (pureS (placeS entryF))
  | 44 => some (pureS (placeS ctlF))
  | 84 => some (pureS startS)
  | 59 => some (pureS fkeyS)
  | 78 => some (pureS fentS)
  | 174 => some (pureS unpkS)
  | 199 => some (pureS bornS)
  | 197 => some (pureS goneS)
  | 32 => some (arLoadS)
  | 28 => some (arStoreS)
  | 178 => some (arSwapS)
  | 36 => some (arStepsS)
  | _ => none
theorem ctTs_ok : ∀ f s args H ob V L, ctTs f = some s → s args H = some (ob, V, L) → AllP ob → Gives Tryz.prog f args H (Is V L) := by
  intro f s args H ob V L h hs ho
  unfold ctTs at h
  split at h
  · simp at h; subst h; exact pureS_ok ⟨_, hTE⟩ (placeS_ok (v := entryF) entry_fn) hs ho
  · simp at h; subst h; exact pureS_ok ⟨_, hTE⟩ (placeS_ok (v := ctlF) ctl_fn) hs ho
  · simp at h; subst h; exact pureS_ok ⟨_, hTE⟩ (startS_ok) hs ho
  · simp at h; subst h; exact pureS_ok ⟨_, hTE⟩ (fkeyS_ok) hs ho
  · simp at h; subst h; exact pureS_ok ⟨_, hTE⟩ (fentS_ok) hs ho
  · simp at h; subst h; exact pureS_ok ⟨_, hTE⟩ (unpkS_ok) hs ho
  · simp at h; subst h; exact pureS_ok ⟨_, hTE⟩ (bornS_ok) hs ho
  · simp at h; subst h; exact pureS_ok ⟨_, hTE⟩ (goneS_ok) hs ho
  · simp at h; subst h; exact arLoadS_ok hs ho
  · simp at h; subst h; exact arStoreS_ok hs ho
  · simp at h; subst h; exact arSwapS_ok hs ho
  · simp at h; subst h; exact arStepsS_ok hs ho
  · simp at h
noncomputable def XTs : Tabs := tabs tr ft xt (fun _ => none) ctTs 20
theorem hXTs : TOk Tryz.prog (XTs) := ⟨hTE, hFT, ctTs_ok, hXT, fun t ks h => by simp [XTs, tabs] at h, mixed⟩
def stF (rm : Bool) : Nat := bif rm then 56 else 55
abbrev Stp (T : Nat) (R : Int) (_start : Nat) (s : TS) (W : List Int) (st kd wd vl : Int) (ch : Bool) (r : TR) : Prop :=
  Gives Tryz.prog (stF s.rm) [.ptr 0 0, .ptr 2 0] [.obj (ruC 1 s), .obj (hoC (T : Int) R 0 1 s), AOx 3 W st kd wd vl ch, WO W] (Is (.bool (decide (r.s.ph = 0))) [.obj (ruC 1 r.s), .obj (hoC (T : Int) R 0 1 r.s), AOx 3 r.W (st + 1) r.kd r.wd r.vl r.ch, WO r.W])
section
variable {T : Nat} {R : Int} {start : Nat} {W : List Int} {st kd wd vl : Int} {ch : Bool}
variable {lg : Bool} {key seq : Int} {i : Nat} {fd : Int} {hd : Bool} {tm pl sn fl bk ep tp : Int} {tl : Bool}

set_option maxHeartbeats 4000000 in
theorem t1ce (P : TPre T R start ⟨false, lg, key, 1, seq, i, fd, hd, tm, 0, pl, sn, fl, bk, ep, tp, tl⟩ W st) (g : ¬ W.getD 2 0 % 2 = 1) : Stp T R start ⟨false, lg, key, 1, seq, i, fd, hd, tm, 0, pl, sn, fl, bk, ep, tp, tl⟩ W st kd wd vl ch ⟨⟨false, lg, key, 2, (W.getD 2 0), i, fd, hd, tm, 0, pl, sn, fl, bk, ep, tp, tl⟩, W, 1, 2, W.getD 2 0, false⟩ := by
  have t1 := P.t1
  have t4 := P.t4
  have r1 := P.r1
  have r8 := P.r8
  have hst : startV (T : Int) 4 1 4 4 1 6 0 R key = (start : Int) := P.hst
  have hl := P.hl
  have s0 := P.s0
  have s1 := P.s1
  have k1 : 1 ≤ key := P.k1
  have k6 : key ≤ 6 := P.k6
  have q0 : 0 ≤ seq := P.q0
  have q1 : seq < 1000000000 := P.q1
  have f0 : 0 ≤ fd := P.f0
  have f1 : fd < R := P.f1
  have g0 : 0 ≤ fl := P.g0
  have n0 : 0 ≤ sn := P.n0
  have n1 : sn < 18446744073709551616 := P.n1
  have hr := right_TR t1 t4 r1 r8
  have l2 : (2 : Int) < (W.length : Int) := by omega
  have w2 := (P.hw 2).1
  have w2' := (P.hw 2).2
  have ew1 : IntKind.u64.wrap (seq + 1) = seq + 1 := wu64 (by omega) (by omega)
  have ew2 : IntKind.u64.wrap (seq + 2) = seq + 2 := wu64 (by omega) (by omega)
  have ewf : IntKind.i64.wrap (fd + 1) = fd + 1 := wi64 (by omega) (by omega)
  have wev : (W.getD 2 0).tmod 2 = W.getD 2 0 % 2 := Int.tmod_eq_emod_of_nonneg w2
  show Gives Tryz.prog 55 _ _ _
  refine gives_x hXTs (fn := Tryz.f55) rfl rfl rfl rfl fun ρ w => ?_
  dsimp only [ruC, hoC, nxV, hlV, erV, cond_true, cond_false]
  refine sx hXTs [] 4000 rfl (by (simp [-List.getD_eq_getElem?_getD, -List.length_eq_zero_iff, conjP, s0, l2] <;> (first | omega | ((repeat' (refine And.intro ?_ ?_)) <;> (first | omega | exact decide_eq_false (by omega) | exact decide_eq_true (by omega)))))) ?_
  refine sx hXTs [.F] 4000 rfl (by (simp [-List.getD_eq_getElem?_getD, -List.length_eq_zero_iff, conjP, addOP, wev, two_nat, g])) ?_
  (try simp only [two_nat]; refine ss_end hXTs [0, 1, 2, 3] rfl rfl trivial rfl rfl rfl rfl ?hv ?hh ?hk ?ho; (case hv => exact clS); (case hh => exact clS); (case hk => exact clS); (case ho => exact clS))
set_option maxHeartbeats 4000000 in
theorem t1cl (P : TPre T R start ⟨false, lg, key, 1, seq, i, fd, hd, tm, 0, pl, sn, fl, bk, ep, tp, tl⟩ W st) (g : W.getD 2 0 % 2 = 1) (g2 : fd + 1 = R) : Stp T R start ⟨false, lg, key, 1, seq, i, fd, hd, tm, 0, pl, sn, fl, bk, ep, tp, tl⟩ W st kd wd vl ch ⟨⟨false, lg, key, 0, (W.getD 2 0), i, (fd + 1), hd, tm, 17, pl, sn, fl, bk, ep, tp, tl⟩, W, 1, 2, W.getD 2 0, false⟩ := by
  have t1 := P.t1
  have t4 := P.t4
  have r1 := P.r1
  have r8 := P.r8
  have hst : startV (T : Int) 4 1 4 4 1 6 0 R key = (start : Int) := P.hst
  have hl := P.hl
  have s0 := P.s0
  have s1 := P.s1
  have k1 : 1 ≤ key := P.k1
  have k6 : key ≤ 6 := P.k6
  have q0 : 0 ≤ seq := P.q0
  have q1 : seq < 1000000000 := P.q1
  have f0 : 0 ≤ fd := P.f0
  have f1 : fd < R := P.f1
  have g0 : 0 ≤ fl := P.g0
  have n0 : 0 ≤ sn := P.n0
  have n1 : sn < 18446744073709551616 := P.n1
  have hr := right_TR t1 t4 r1 r8
  have l2 : (2 : Int) < (W.length : Int) := by omega
  have w2 := (P.hw 2).1
  have w2' := (P.hw 2).2
  have ew1 : IntKind.u64.wrap (seq + 1) = seq + 1 := wu64 (by omega) (by omega)
  have ew2 : IntKind.u64.wrap (seq + 2) = seq + 2 := wu64 (by omega) (by omega)
  have ewf : IntKind.i64.wrap (fd + 1) = fd + 1 := wi64 (by omega) (by omega)
  have wev : (W.getD 2 0).tmod 2 = W.getD 2 0 % 2 := Int.tmod_eq_emod_of_nonneg w2
  have ewR : IntKind.i64.wrap (fd + 1) = R := by rw [ewf, g2]
  show Gives Tryz.prog 55 _ _ _
  refine gives_x hXTs (fn := Tryz.f55) rfl rfl rfl rfl fun ρ w => ?_
  dsimp only [ruC, hoC, nxV, hlV, erV, cond_true, cond_false]
  refine sx hXTs [] 4000 rfl (by (simp [-List.getD_eq_getElem?_getD, -List.length_eq_zero_iff, conjP, s0, l2] <;> (first | omega | ((repeat' (refine And.intro ?_ ?_)) <;> (first | omega | exact decide_eq_false (by omega) | exact decide_eq_true (by omega)))))) ?_
  refine sx hXTs [.T] 4000 rfl (by (simp [-List.getD_eq_getElem?_getD, -List.length_eq_zero_iff, conjP, addOP, wev, two_nat, g])) ?_
  refine sx hXTs [.T] 4000 rfl (by (simp [-List.getD_eq_getElem?_getD, -List.length_eq_zero_iff, conjP, addOP, ewR])) ?_
  refine sx hXTs [.F] 4000 rfl (by (simp [-List.getD_eq_getElem?_getD, -List.length_eq_zero_iff, conjP, addOP])) ?_
  (try simp only [two_nat, ewf]; refine ss_end hXTs [0, 1, 2, 3] rfl rfl trivial rfl rfl rfl rfl ?hv ?hh ?hk ?ho; (case hv => exact clS); (case hh => exact clS); (case hk => exact clS); (case ho => exact clS))
set_option maxHeartbeats 4000000 in
theorem t1cf (P : TPre T R start ⟨false, lg, key, 1, seq, i, fd, hd, tm, 0, pl, sn, fl, bk, ep, tp, tl⟩ W st) (g : W.getD 2 0 % 2 = 1) (g2 : ¬ fd + 1 = R) : Stp T R start ⟨false, lg, key, 1, seq, i, fd, hd, tm, 0, pl, sn, fl, bk, ep, tp, tl⟩ W st kd wd vl ch ⟨⟨false, lg, key, 1, (W.getD 2 0), i, (fd + 1), hd, tm, 0, pl, sn, fl, bk, ep, tp, tl⟩, W, 1, 2, W.getD 2 0, false⟩ := by
  have t1 := P.t1
  have t4 := P.t4
  have r1 := P.r1
  have r8 := P.r8
  have hst : startV (T : Int) 4 1 4 4 1 6 0 R key = (start : Int) := P.hst
  have hl := P.hl
  have s0 := P.s0
  have s1 := P.s1
  have k1 : 1 ≤ key := P.k1
  have k6 : key ≤ 6 := P.k6
  have q0 : 0 ≤ seq := P.q0
  have q1 : seq < 1000000000 := P.q1
  have f0 : 0 ≤ fd := P.f0
  have f1 : fd < R := P.f1
  have g0 : 0 ≤ fl := P.g0
  have n0 : 0 ≤ sn := P.n0
  have n1 : sn < 18446744073709551616 := P.n1
  have hr := right_TR t1 t4 r1 r8
  have l2 : (2 : Int) < (W.length : Int) := by omega
  have w2 := (P.hw 2).1
  have w2' := (P.hw 2).2
  have ew1 : IntKind.u64.wrap (seq + 1) = seq + 1 := wu64 (by omega) (by omega)
  have ew2 : IntKind.u64.wrap (seq + 2) = seq + 2 := wu64 (by omega) (by omega)
  have ewf : IntKind.i64.wrap (fd + 1) = fd + 1 := wi64 (by omega) (by omega)
  have wev : (W.getD 2 0).tmod 2 = W.getD 2 0 % 2 := Int.tmod_eq_emod_of_nonneg w2
  show Gives Tryz.prog 55 _ _ _
  refine gives_x hXTs (fn := Tryz.f55) rfl rfl rfl rfl fun ρ w => ?_
  dsimp only [ruC, hoC, nxV, hlV, erV, cond_true, cond_false]
  refine sx hXTs [] 4000 rfl (by (simp [-List.getD_eq_getElem?_getD, -List.length_eq_zero_iff, conjP, s0, l2] <;> (first | omega | ((repeat' (refine And.intro ?_ ?_)) <;> (first | omega | exact decide_eq_false (by omega) | exact decide_eq_true (by omega)))))) ?_
  refine sx hXTs [.T] 4000 rfl (by (simp [-List.getD_eq_getElem?_getD, -List.length_eq_zero_iff, conjP, addOP, wev, two_nat, g])) ?_
  refine sx hXTs [.F] 4000 rfl (by (simp [-List.getD_eq_getElem?_getD, -List.length_eq_zero_iff, conjP, addOP, ewf, g2])) ?_
  (try simp only [two_nat, ewf]; refine ss_end hXTs [0, 1, 2, 3] rfl rfl trivial rfl rfl rfl rfl ?hv ?hh ?hk ?ho; (case hv => exact clS); (case hh => exact clS); (case hk => exact clS); (case ho => exact clS))
set_option maxHeartbeats 4000000 in
theorem t2ch (P : TPre T R start ⟨false, lg, key, 2, seq, i, fd, hd, tm, 0, pl, sn, fl, bk, ep, tp, tl⟩ W st) (g : W.getD 2 0 = seq) : Stp T R start ⟨false, lg, key, 2, seq, i, fd, hd, tm, 0, pl, sn, fl, bk, ep, tp, tl⟩ W st kd wd vl ch ⟨⟨false, lg, key, 3, seq, i, fd, true, tm, 0, pl, sn, fl, bk, ep, tp, tl⟩, W.set 2 (seq + 1), 3, 2, seq + 1, true⟩ := by
  have t1 := P.t1
  have t4 := P.t4
  have r1 := P.r1
  have r8 := P.r8
  have hst : startV (T : Int) 4 1 4 4 1 6 0 R key = (start : Int) := P.hst
  have hl := P.hl
  have s0 := P.s0
  have s1 := P.s1
  have k1 : 1 ≤ key := P.k1
  have k6 : key ≤ 6 := P.k6
  have q0 : 0 ≤ seq := P.q0
  have q1 : seq < 1000000000 := P.q1
  have f0 : 0 ≤ fd := P.f0
  have f1 : fd < R := P.f1
  have g0 : 0 ≤ fl := P.g0
  have n0 : 0 ≤ sn := P.n0
  have n1 : sn < 18446744073709551616 := P.n1
  have hr := right_TR t1 t4 r1 r8
  have l2 : (2 : Int) < (W.length : Int) := by omega
  have w2 := (P.hw 2).1
  have w2' := (P.hw 2).2
  have ew1 : IntKind.u64.wrap (seq + 1) = seq + 1 := wu64 (by omega) (by omega)
  have ew2 : IntKind.u64.wrap (seq + 2) = seq + 2 := wu64 (by omega) (by omega)
  have ewf : IntKind.i64.wrap (fd + 1) = fd + 1 := wi64 (by omega) (by omega)
  have sw1 : swW W 2 seq (seq + 1) = W.set 2 (seq + 1) := by unfold swW; rw [if_pos (by exact g)]; rfl
  have gt : W.getD (Int.toNat 2) 0 = seq := g
  show Gives Tryz.prog 55 _ _ _
  refine gives_x hXTs (fn := Tryz.f55) rfl rfl rfl rfl fun ρ w => ?_
  dsimp only [ruC, hoC, nxV, hlV, erV, cond_true, cond_false]
  refine sx hXTs [] 4000 rfl (by (simp [-List.getD_eq_getElem?_getD, -List.length_eq_zero_iff, conjP, getH, HE.so, s0, l2] <;> (first | omega | ((repeat' (refine And.intro ?_ ?_)) <;> (first | omega | exact decide_eq_false (by omega) | exact decide_eq_true (by omega)))))) ?_
  refine sx hXTs [.F] 4000 rfl (by (simp [-List.getD_eq_getElem?_getD, -List.length_eq_zero_iff, conjP, addOP, g])) ?_
  (try simp only [ew1, sw1, gt, if_true, decide_true]; refine ss_end hXTs [0, 1, 2, 3] rfl rfl trivial rfl rfl rfl rfl ?hv ?hh ?hk ?ho; (case hv => exact clS); (case hh => exact clS); (case hk => exact clS); (case ho => exact clS))
set_option maxHeartbeats 4000000 in
theorem t2cl (P : TPre T R start ⟨false, lg, key, 2, seq, i, fd, hd, tm, 0, pl, sn, fl, bk, ep, tp, tl⟩ W st) (g : ¬ W.getD 2 0 = seq) (g2 : fd + 1 = R) : Stp T R start ⟨false, lg, key, 2, seq, i, fd, hd, tm, 0, pl, sn, fl, bk, ep, tp, tl⟩ W st kd wd vl ch ⟨⟨false, lg, key, 0, seq, i, (fd + 1), false, tm, 17, pl, sn, fl, bk, ep, tp, tl⟩, W, 3, 2, W.getD 2 0, false⟩ := by
  have t1 := P.t1
  have t4 := P.t4
  have r1 := P.r1
  have r8 := P.r8
  have hst : startV (T : Int) 4 1 4 4 1 6 0 R key = (start : Int) := P.hst
  have hl := P.hl
  have s0 := P.s0
  have s1 := P.s1
  have k1 : 1 ≤ key := P.k1
  have k6 : key ≤ 6 := P.k6
  have q0 : 0 ≤ seq := P.q0
  have q1 : seq < 1000000000 := P.q1
  have f0 : 0 ≤ fd := P.f0
  have f1 : fd < R := P.f1
  have g0 : 0 ≤ fl := P.g0
  have n0 : 0 ≤ sn := P.n0
  have n1 : sn < 18446744073709551616 := P.n1
  have hr := right_TR t1 t4 r1 r8
  have l2 : (2 : Int) < (W.length : Int) := by omega
  have w2 := (P.hw 2).1
  have w2' := (P.hw 2).2
  have ew1 : IntKind.u64.wrap (seq + 1) = seq + 1 := wu64 (by omega) (by omega)
  have ew2 : IntKind.u64.wrap (seq + 2) = seq + 2 := wu64 (by omega) (by omega)
  have ewf : IntKind.i64.wrap (fd + 1) = fd + 1 := wi64 (by omega) (by omega)
  have sw1 : swW W 2 seq (seq + 1) = W := by unfold swW; rw [if_neg (by exact g)]
  have gt : ¬ W.getD (Int.toNat 2) 0 = seq := g
  have gd : decide (W.getD 2 0 = seq) = false := decide_eq_false g
  have ewR : IntKind.i64.wrap (fd + 1) = R := by rw [ewf, g2]
  show Gives Tryz.prog 55 _ _ _
  refine gives_x hXTs (fn := Tryz.f55) rfl rfl rfl rfl fun ρ w => ?_
  dsimp only [ruC, hoC, nxV, hlV, erV, cond_true, cond_false]
  refine sx hXTs [] 4000 rfl (by (simp [-List.getD_eq_getElem?_getD, -List.length_eq_zero_iff, conjP, getH, HE.so, s0, l2] <;> (first | omega | ((repeat' (refine And.intro ?_ ?_)) <;> (first | omega | exact decide_eq_false (by omega) | exact decide_eq_true (by omega)))))) ?_
  refine sx hXTs [.T] 4000 rfl (by (simp [-List.getD_eq_getElem?_getD, -List.length_eq_zero_iff, conjP, addOP, g])) ?_
  refine sx hXTs [.T] 4000 rfl (by (simp [-List.getD_eq_getElem?_getD, -List.length_eq_zero_iff, conjP, addOP, ewR])) ?_
  refine sx hXTs [.F] 4000 rfl (by (simp [-List.getD_eq_getElem?_getD, -List.length_eq_zero_iff, conjP, addOP])) ?_
  (try simp only [ew1, sw1, two_nat, gd, if_neg g, ewf]; refine ss_end hXTs [0, 1, 2, 3] rfl rfl trivial rfl rfl rfl rfl ?hv ?hh ?hk ?ho; (case hv => exact clS); (case hh => exact clS); (case hk => exact clS); (case ho => exact clS))
set_option maxHeartbeats 4000000 in
theorem t2cf (P : TPre T R start ⟨false, lg, key, 2, seq, i, fd, hd, tm, 0, pl, sn, fl, bk, ep, tp, tl⟩ W st) (g : ¬ W.getD 2 0 = seq) (g2 : ¬ fd + 1 = R) : Stp T R start ⟨false, lg, key, 2, seq, i, fd, hd, tm, 0, pl, sn, fl, bk, ep, tp, tl⟩ W st kd wd vl ch ⟨⟨false, lg, key, 1, seq, i, (fd + 1), false, tm, 0, pl, sn, fl, bk, ep, tp, tl⟩, W, 3, 2, W.getD 2 0, false⟩ := by
  have t1 := P.t1
  have t4 := P.t4
  have r1 := P.r1
  have r8 := P.r8
  have hst : startV (T : Int) 4 1 4 4 1 6 0 R key = (start : Int) := P.hst
  have hl := P.hl
  have s0 := P.s0
  have s1 := P.s1
  have k1 : 1 ≤ key := P.k1
  have k6 : key ≤ 6 := P.k6
  have q0 : 0 ≤ seq := P.q0
  have q1 : seq < 1000000000 := P.q1
  have f0 : 0 ≤ fd := P.f0
  have f1 : fd < R := P.f1
  have g0 : 0 ≤ fl := P.g0
  have n0 : 0 ≤ sn := P.n0
  have n1 : sn < 18446744073709551616 := P.n1
  have hr := right_TR t1 t4 r1 r8
  have l2 : (2 : Int) < (W.length : Int) := by omega
  have w2 := (P.hw 2).1
  have w2' := (P.hw 2).2
  have ew1 : IntKind.u64.wrap (seq + 1) = seq + 1 := wu64 (by omega) (by omega)
  have ew2 : IntKind.u64.wrap (seq + 2) = seq + 2 := wu64 (by omega) (by omega)
  have ewf : IntKind.i64.wrap (fd + 1) = fd + 1 := wi64 (by omega) (by omega)
  have sw1 : swW W 2 seq (seq + 1) = W := by unfold swW; rw [if_neg (by exact g)]
  have gt : ¬ W.getD (Int.toNat 2) 0 = seq := g
  have gd : decide (W.getD 2 0 = seq) = false := decide_eq_false g
  show Gives Tryz.prog 55 _ _ _
  refine gives_x hXTs (fn := Tryz.f55) rfl rfl rfl rfl fun ρ w => ?_
  dsimp only [ruC, hoC, nxV, hlV, erV, cond_true, cond_false]
  refine sx hXTs [] 4000 rfl (by (simp [-List.getD_eq_getElem?_getD, -List.length_eq_zero_iff, conjP, getH, HE.so, s0, l2] <;> (first | omega | ((repeat' (refine And.intro ?_ ?_)) <;> (first | omega | exact decide_eq_false (by omega) | exact decide_eq_true (by omega)))))) ?_
  refine sx hXTs [.T] 4000 rfl (by (simp [-List.getD_eq_getElem?_getD, -List.length_eq_zero_iff, conjP, addOP, g])) ?_
  refine sx hXTs [.F] 4000 rfl (by (simp [-List.getD_eq_getElem?_getD, -List.length_eq_zero_iff, conjP, addOP, ewf, g2])) ?_
  (try simp only [ew1, sw1, two_nat, gd, if_neg g, ewf]; refine ss_end hXTs [0, 1, 2, 3] rfl rfl trivial rfl rfl rfl rfl ?hv ?hh ?hk ?ho; (case hv => exact clS); (case hh => exact clS); (case hk => exact clS); (case ho => exact clS))
set_option maxHeartbeats 4000000 in
theorem t7c {er : Int} (P : TPre T R start ⟨false, lg, key, 7, seq, i, fd, hd, tm, er, pl, sn, fl, bk, ep, tp, tl⟩ W st)  : Stp T R start ⟨false, lg, key, 7, seq, i, fd, hd, tm, er, pl, sn, fl, bk, ep, tp, tl⟩ W st kd wd vl ch ⟨⟨false, lg, key, 0, seq, i, fd, false, tm, er, pl, sn, fl, bk, ep, tp, tl⟩, W.set 2 (seq + 2), 2, 2, seq + 2, true⟩ := by
  have t1 := P.t1
  have t4 := P.t4
  have r1 := P.r1
  have r8 := P.r8
  have hst : startV (T : Int) 4 1 4 4 1 6 0 R key = (start : Int) := P.hst
  have hl := P.hl
  have s0 := P.s0
  have s1 := P.s1
  have k1 : 1 ≤ key := P.k1
  have k6 : key ≤ 6 := P.k6
  have q0 : 0 ≤ seq := P.q0
  have q1 : seq < 1000000000 := P.q1
  have f0 : 0 ≤ fd := P.f0
  have f1 : fd < R := P.f1
  have g0 : 0 ≤ fl := P.g0
  have n0 : 0 ≤ sn := P.n0
  have n1 : sn < 18446744073709551616 := P.n1
  have hr := right_TR t1 t4 r1 r8
  have l2 : (2 : Int) < (W.length : Int) := by omega
  have w2 := (P.hw 2).1
  have w2' := (P.hw 2).2
  have ew1 : IntKind.u64.wrap (seq + 1) = seq + 1 := wu64 (by omega) (by omega)
  have ew2 : IntKind.u64.wrap (seq + 2) = seq + 2 := wu64 (by omega) (by omega)
  have ewf : IntKind.i64.wrap (fd + 1) = fd + 1 := wi64 (by omega) (by omega)
  show Gives Tryz.prog 55 _ _ _
  refine gives_x hXTs (fn := Tryz.f55) rfl rfl rfl rfl fun ρ w => ?_
  dsimp only [ruC, hoC, nxV, hlV, cond_true, cond_false]
  refine sx hXTs [] 4000 rfl (by (simp [-List.getD_eq_getElem?_getD, -List.length_eq_zero_iff, conjP, getH, HE.so, s0, l2] <;> (first | omega | ((repeat' (refine And.intro ?_ ?_)) <;> (first | omega | exact decide_eq_false (by omega) | exact decide_eq_true (by omega)))))) ?_
  (try simp only [ew2, two_nat]; refine ss_end hXTs [0, 1, 2, 3] rfl rfl trivial rfl rfl rfl rfl ?hv ?hh ?hk ?ho; (case hv => exact clS); (case hh => exact clS); (case hk => exact clS); (case ho => exact clS))
set_option maxHeartbeats 4000000 in
theorem t1re (P : TPre T R start ⟨true, lg, key, 1, seq, i, fd, hd, tm, 0, pl, sn, fl, bk, ep, tp, tl⟩ W st) (g : ¬ W.getD 2 0 % 2 = 1) : Stp T R start ⟨true, lg, key, 1, seq, i, fd, hd, tm, 0, pl, sn, fl, bk, ep, tp, tl⟩ W st kd wd vl ch ⟨⟨true, lg, key, 2, (W.getD 2 0), i, fd, hd, tm, 0, pl, sn, fl, bk, ep, tp, tl⟩, W, 1, 2, W.getD 2 0, false⟩ := by
  have t1 := P.t1
  have t4 := P.t4
  have r1 := P.r1
  have r8 := P.r8
  have hst : startV (T : Int) 4 1 4 4 1 6 0 R key = (start : Int) := P.hst
  have hl := P.hl
  have s0 := P.s0
  have s1 := P.s1
  have k1 : 1 ≤ key := P.k1
  have k6 : key ≤ 6 := P.k6
  have q0 : 0 ≤ seq := P.q0
  have q1 : seq < 1000000000 := P.q1
  have f0 : 0 ≤ fd := P.f0
  have f1 : fd < R := P.f1
  have g0 : 0 ≤ fl := P.g0
  have n0 : 0 ≤ sn := P.n0
  have n1 : sn < 18446744073709551616 := P.n1
  have hr := right_TR t1 t4 r1 r8
  have l2 : (2 : Int) < (W.length : Int) := by omega
  have w2 := (P.hw 2).1
  have w2' := (P.hw 2).2
  have ew1 : IntKind.u64.wrap (seq + 1) = seq + 1 := wu64 (by omega) (by omega)
  have ew2 : IntKind.u64.wrap (seq + 2) = seq + 2 := wu64 (by omega) (by omega)
  have ewf : IntKind.i64.wrap (fd + 1) = fd + 1 := wi64 (by omega) (by omega)
  have wev : (W.getD 2 0).tmod 2 = W.getD 2 0 % 2 := Int.tmod_eq_emod_of_nonneg w2
  show Gives Tryz.prog 56 _ _ _
  refine gives_x hXTs (fn := Tryz.f56) rfl rfl rfl rfl fun ρ w => ?_
  dsimp only [ruC, hoC, nxV, hlV, erV, cond_true, cond_false]
  refine sx hXTs [] 4000 rfl (by (simp [-List.getD_eq_getElem?_getD, -List.length_eq_zero_iff, conjP, s0, l2] <;> (first | omega | ((repeat' (refine And.intro ?_ ?_)) <;> (first | omega | exact decide_eq_false (by omega) | exact decide_eq_true (by omega)))))) ?_
  refine sx hXTs [.F] 4000 rfl (by (simp [-List.getD_eq_getElem?_getD, -List.length_eq_zero_iff, conjP, addOP, wev, two_nat, g])) ?_
  (try simp only [two_nat]; refine ss_end hXTs [0, 1, 2, 3] rfl rfl trivial rfl rfl rfl rfl ?hv ?hh ?hk ?ho; (case hv => exact clS); (case hh => exact clS); (case hk => exact clS); (case ho => exact clS))
set_option maxHeartbeats 4000000 in
theorem t1rl (P : TPre T R start ⟨true, lg, key, 1, seq, i, fd, hd, tm, 0, pl, sn, fl, bk, ep, tp, tl⟩ W st) (g : W.getD 2 0 % 2 = 1) (g2 : fd + 1 = R) : Stp T R start ⟨true, lg, key, 1, seq, i, fd, hd, tm, 0, pl, sn, fl, bk, ep, tp, tl⟩ W st kd wd vl ch ⟨⟨true, lg, key, 0, (W.getD 2 0), i, (fd + 1), hd, tm, 17, pl, sn, fl, bk, ep, tp, tl⟩, W, 1, 2, W.getD 2 0, false⟩ := by
  have t1 := P.t1
  have t4 := P.t4
  have r1 := P.r1
  have r8 := P.r8
  have hst : startV (T : Int) 4 1 4 4 1 6 0 R key = (start : Int) := P.hst
  have hl := P.hl
  have s0 := P.s0
  have s1 := P.s1
  have k1 : 1 ≤ key := P.k1
  have k6 : key ≤ 6 := P.k6
  have q0 : 0 ≤ seq := P.q0
  have q1 : seq < 1000000000 := P.q1
  have f0 : 0 ≤ fd := P.f0
  have f1 : fd < R := P.f1
  have g0 : 0 ≤ fl := P.g0
  have n0 : 0 ≤ sn := P.n0
  have n1 : sn < 18446744073709551616 := P.n1
  have hr := right_TR t1 t4 r1 r8
  have l2 : (2 : Int) < (W.length : Int) := by omega
  have w2 := (P.hw 2).1
  have w2' := (P.hw 2).2
  have ew1 : IntKind.u64.wrap (seq + 1) = seq + 1 := wu64 (by omega) (by omega)
  have ew2 : IntKind.u64.wrap (seq + 2) = seq + 2 := wu64 (by omega) (by omega)
  have ewf : IntKind.i64.wrap (fd + 1) = fd + 1 := wi64 (by omega) (by omega)
  have wev : (W.getD 2 0).tmod 2 = W.getD 2 0 % 2 := Int.tmod_eq_emod_of_nonneg w2
  have ewR : IntKind.i64.wrap (fd + 1) = R := by rw [ewf, g2]
  show Gives Tryz.prog 56 _ _ _
  refine gives_x hXTs (fn := Tryz.f56) rfl rfl rfl rfl fun ρ w => ?_
  dsimp only [ruC, hoC, nxV, hlV, erV, cond_true, cond_false]
  refine sx hXTs [] 4000 rfl (by (simp [-List.getD_eq_getElem?_getD, -List.length_eq_zero_iff, conjP, s0, l2] <;> (first | omega | ((repeat' (refine And.intro ?_ ?_)) <;> (first | omega | exact decide_eq_false (by omega) | exact decide_eq_true (by omega)))))) ?_
  refine sx hXTs [.T] 4000 rfl (by (simp [-List.getD_eq_getElem?_getD, -List.length_eq_zero_iff, conjP, addOP, wev, two_nat, g])) ?_
  refine sx hXTs [.T] 4000 rfl (by (simp [-List.getD_eq_getElem?_getD, -List.length_eq_zero_iff, conjP, addOP, ewR])) ?_
  refine sx hXTs [.F] 4000 rfl (by (simp [-List.getD_eq_getElem?_getD, -List.length_eq_zero_iff, conjP, addOP])) ?_
  (try simp only [two_nat, ewf]; refine ss_end hXTs [0, 1, 2, 3] rfl rfl trivial rfl rfl rfl rfl ?hv ?hh ?hk ?ho; (case hv => exact clS); (case hh => exact clS); (case hk => exact clS); (case ho => exact clS))
set_option maxHeartbeats 4000000 in
theorem t1rf (P : TPre T R start ⟨true, lg, key, 1, seq, i, fd, hd, tm, 0, pl, sn, fl, bk, ep, tp, tl⟩ W st) (g : W.getD 2 0 % 2 = 1) (g2 : ¬ fd + 1 = R) : Stp T R start ⟨true, lg, key, 1, seq, i, fd, hd, tm, 0, pl, sn, fl, bk, ep, tp, tl⟩ W st kd wd vl ch ⟨⟨true, lg, key, 1, (W.getD 2 0), i, (fd + 1), hd, tm, 0, pl, sn, fl, bk, ep, tp, tl⟩, W, 1, 2, W.getD 2 0, false⟩ := by
  have t1 := P.t1
  have t4 := P.t4
  have r1 := P.r1
  have r8 := P.r8
  have hst : startV (T : Int) 4 1 4 4 1 6 0 R key = (start : Int) := P.hst
  have hl := P.hl
  have s0 := P.s0
  have s1 := P.s1
  have k1 : 1 ≤ key := P.k1
  have k6 : key ≤ 6 := P.k6
  have q0 : 0 ≤ seq := P.q0
  have q1 : seq < 1000000000 := P.q1
  have f0 : 0 ≤ fd := P.f0
  have f1 : fd < R := P.f1
  have g0 : 0 ≤ fl := P.g0
  have n0 : 0 ≤ sn := P.n0
  have n1 : sn < 18446744073709551616 := P.n1
  have hr := right_TR t1 t4 r1 r8
  have l2 : (2 : Int) < (W.length : Int) := by omega
  have w2 := (P.hw 2).1
  have w2' := (P.hw 2).2
  have ew1 : IntKind.u64.wrap (seq + 1) = seq + 1 := wu64 (by omega) (by omega)
  have ew2 : IntKind.u64.wrap (seq + 2) = seq + 2 := wu64 (by omega) (by omega)
  have ewf : IntKind.i64.wrap (fd + 1) = fd + 1 := wi64 (by omega) (by omega)
  have wev : (W.getD 2 0).tmod 2 = W.getD 2 0 % 2 := Int.tmod_eq_emod_of_nonneg w2
  show Gives Tryz.prog 56 _ _ _
  refine gives_x hXTs (fn := Tryz.f56) rfl rfl rfl rfl fun ρ w => ?_
  dsimp only [ruC, hoC, nxV, hlV, erV, cond_true, cond_false]
  refine sx hXTs [] 4000 rfl (by (simp [-List.getD_eq_getElem?_getD, -List.length_eq_zero_iff, conjP, s0, l2] <;> (first | omega | ((repeat' (refine And.intro ?_ ?_)) <;> (first | omega | exact decide_eq_false (by omega) | exact decide_eq_true (by omega)))))) ?_
  refine sx hXTs [.T] 4000 rfl (by (simp [-List.getD_eq_getElem?_getD, -List.length_eq_zero_iff, conjP, addOP, wev, two_nat, g])) ?_
  refine sx hXTs [.F] 4000 rfl (by (simp [-List.getD_eq_getElem?_getD, -List.length_eq_zero_iff, conjP, addOP, ewf, g2])) ?_
  (try simp only [two_nat, ewf]; refine ss_end hXTs [0, 1, 2, 3] rfl rfl trivial rfl rfl rfl rfl ?hv ?hh ?hk ?ho; (case hv => exact clS); (case hh => exact clS); (case hk => exact clS); (case ho => exact clS))
set_option maxHeartbeats 4000000 in
theorem t2rh (P : TPre T R start ⟨true, lg, key, 2, seq, i, fd, hd, tm, 0, pl, sn, fl, bk, ep, tp, tl⟩ W st) (g : W.getD 2 0 = seq) : Stp T R start ⟨true, lg, key, 2, seq, i, fd, hd, tm, 0, pl, sn, fl, bk, ep, tp, tl⟩ W st kd wd vl ch ⟨⟨true, lg, key, 3, seq, i, fd, true, tm, 0, pl, sn, fl, bk, ep, tp, tl⟩, W.set 2 (seq + 1), 3, 2, seq + 1, true⟩ := by
  have t1 := P.t1
  have t4 := P.t4
  have r1 := P.r1
  have r8 := P.r8
  have hst : startV (T : Int) 4 1 4 4 1 6 0 R key = (start : Int) := P.hst
  have hl := P.hl
  have s0 := P.s0
  have s1 := P.s1
  have k1 : 1 ≤ key := P.k1
  have k6 : key ≤ 6 := P.k6
  have q0 : 0 ≤ seq := P.q0
  have q1 : seq < 1000000000 := P.q1
  have f0 : 0 ≤ fd := P.f0
  have f1 : fd < R := P.f1
  have g0 : 0 ≤ fl := P.g0
  have n0 : 0 ≤ sn := P.n0
  have n1 : sn < 18446744073709551616 := P.n1
  have hr := right_TR t1 t4 r1 r8
  have l2 : (2 : Int) < (W.length : Int) := by omega
  have w2 := (P.hw 2).1
  have w2' := (P.hw 2).2
  have ew1 : IntKind.u64.wrap (seq + 1) = seq + 1 := wu64 (by omega) (by omega)
  have ew2 : IntKind.u64.wrap (seq + 2) = seq + 2 := wu64 (by omega) (by omega)
  have ewf : IntKind.i64.wrap (fd + 1) = fd + 1 := wi64 (by omega) (by omega)
  have sw1 : swW W 2 seq (seq + 1) = W.set 2 (seq + 1) := by unfold swW; rw [if_pos (by exact g)]; rfl
  have gt : W.getD (Int.toNat 2) 0 = seq := g
  show Gives Tryz.prog 56 _ _ _
  refine gives_x hXTs (fn := Tryz.f56) rfl rfl rfl rfl fun ρ w => ?_
  dsimp only [ruC, hoC, nxV, hlV, erV, cond_true, cond_false]
  refine sx hXTs [] 4000 rfl (by (simp [-List.getD_eq_getElem?_getD, -List.length_eq_zero_iff, conjP, getH, HE.so, s0, l2] <;> (first | omega | ((repeat' (refine And.intro ?_ ?_)) <;> (first | omega | exact decide_eq_false (by omega) | exact decide_eq_true (by omega)))))) ?_
  refine sx hXTs [.F] 4000 rfl (by (simp [-List.getD_eq_getElem?_getD, -List.length_eq_zero_iff, conjP, addOP, g])) ?_
  (try simp only [ew1, sw1, gt, if_true, decide_true]; refine ss_end hXTs [0, 1, 2, 3] rfl rfl trivial rfl rfl rfl rfl ?hv ?hh ?hk ?ho; (case hv => exact clS); (case hh => exact clS); (case hk => exact clS); (case ho => exact clS))
set_option maxHeartbeats 4000000 in
theorem t2rl (P : TPre T R start ⟨true, lg, key, 2, seq, i, fd, hd, tm, 0, pl, sn, fl, bk, ep, tp, tl⟩ W st) (g : ¬ W.getD 2 0 = seq) (g2 : fd + 1 = R) : Stp T R start ⟨true, lg, key, 2, seq, i, fd, hd, tm, 0, pl, sn, fl, bk, ep, tp, tl⟩ W st kd wd vl ch ⟨⟨true, lg, key, 0, seq, i, (fd + 1), false, tm, 17, pl, sn, fl, bk, ep, tp, tl⟩, W, 3, 2, W.getD 2 0, false⟩ := by
  have t1 := P.t1
  have t4 := P.t4
  have r1 := P.r1
  have r8 := P.r8
  have hst : startV (T : Int) 4 1 4 4 1 6 0 R key = (start : Int) := P.hst
  have hl := P.hl
  have s0 := P.s0
  have s1 := P.s1
  have k1 : 1 ≤ key := P.k1
  have k6 : key ≤ 6 := P.k6
  have q0 : 0 ≤ seq := P.q0
  have q1 : seq < 1000000000 := P.q1
  have f0 : 0 ≤ fd := P.f0
  have f1 : fd < R := P.f1
  have g0 : 0 ≤ fl := P.g0
  have n0 : 0 ≤ sn := P.n0
  have n1 : sn < 18446744073709551616 := P.n1
  have hr := right_TR t1 t4 r1 r8
  have l2 : (2 : Int) < (W.length : Int) := by omega
  have w2 := (P.hw 2).1
  have w2' := (P.hw 2).2
  have ew1 : IntKind.u64.wrap (seq + 1) = seq + 1 := wu64 (by omega) (by omega)
  have ew2 : IntKind.u64.wrap (seq + 2) = seq + 2 := wu64 (by omega) (by omega)
  have ewf : IntKind.i64.wrap (fd + 1) = fd + 1 := wi64 (by omega) (by omega)
  have sw1 : swW W 2 seq (seq + 1) = W := by unfold swW; rw [if_neg (by exact g)]
  have gt : ¬ W.getD (Int.toNat 2) 0 = seq := g
  have gd : decide (W.getD 2 0 = seq) = false := decide_eq_false g
  have ewR : IntKind.i64.wrap (fd + 1) = R := by rw [ewf, g2]
  show Gives Tryz.prog 56 _ _ _
  refine gives_x hXTs (fn := Tryz.f56) rfl rfl rfl rfl fun ρ w => ?_
  dsimp only [ruC, hoC, nxV, hlV, erV, cond_true, cond_false]
  refine sx hXTs [] 4000 rfl (by (simp [-List.getD_eq_getElem?_getD, -List.length_eq_zero_iff, conjP, getH, HE.so, s0, l2] <;> (first | omega | ((repeat' (refine And.intro ?_ ?_)) <;> (first | omega | exact decide_eq_false (by omega) | exact decide_eq_true (by omega)))))) ?_
  refine sx hXTs [.T] 4000 rfl (by (simp [-List.getD_eq_getElem?_getD, -List.length_eq_zero_iff, conjP, addOP, g])) ?_
  refine sx hXTs [.T] 4000 rfl (by (simp [-List.getD_eq_getElem?_getD, -List.length_eq_zero_iff, conjP, addOP, ewR])) ?_
  refine sx hXTs [.F] 4000 rfl (by (simp [-List.getD_eq_getElem?_getD, -List.length_eq_zero_iff, conjP, addOP])) ?_
  (try simp only [ew1, sw1, two_nat, gd, if_neg g, ewf]; refine ss_end hXTs [0, 1, 2, 3] rfl rfl trivial rfl rfl rfl rfl ?hv ?hh ?hk ?ho; (case hv => exact clS); (case hh => exact clS); (case hk => exact clS); (case ho => exact clS))
set_option maxHeartbeats 4000000 in
theorem t2rf (P : TPre T R start ⟨true, lg, key, 2, seq, i, fd, hd, tm, 0, pl, sn, fl, bk, ep, tp, tl⟩ W st) (g : ¬ W.getD 2 0 = seq) (g2 : ¬ fd + 1 = R) : Stp T R start ⟨true, lg, key, 2, seq, i, fd, hd, tm, 0, pl, sn, fl, bk, ep, tp, tl⟩ W st kd wd vl ch ⟨⟨true, lg, key, 1, seq, i, (fd + 1), false, tm, 0, pl, sn, fl, bk, ep, tp, tl⟩, W, 3, 2, W.getD 2 0, false⟩ := by
  have t1 := P.t1
  have t4 := P.t4
  have r1 := P.r1
  have r8 := P.r8
  have hst : startV (T : Int) 4 1 4 4 1 6 0 R key = (start : Int) := P.hst
  have hl := P.hl
  have s0 := P.s0
  have s1 := P.s1
  have k1 : 1 ≤ key := P.k1
  have k6 : key ≤ 6 := P.k6
  have q0 : 0 ≤ seq := P.q0
  have q1 : seq < 1000000000 := P.q1
  have f0 : 0 ≤ fd := P.f0
  have f1 : fd < R := P.f1
  have g0 : 0 ≤ fl := P.g0
  have n0 : 0 ≤ sn := P.n0
  have n1 : sn < 18446744073709551616 := P.n1
  have hr := right_TR t1 t4 r1 r8
  have l2 : (2 : Int) < (W.length : Int) := by omega
  have w2 := (P.hw 2).1
  have w2' := (P.hw 2).2
  have ew1 : IntKind.u64.wrap (seq + 1) = seq + 1 := wu64 (by omega) (by omega)
  have ew2 : IntKind.u64.wrap (seq + 2) = seq + 2 := wu64 (by omega) (by omega)
  have ewf : IntKind.i64.wrap (fd + 1) = fd + 1 := wi64 (by omega) (by omega)
  have sw1 : swW W 2 seq (seq + 1) = W := by unfold swW; rw [if_neg (by exact g)]
  have gt : ¬ W.getD (Int.toNat 2) 0 = seq := g
  have gd : decide (W.getD 2 0 = seq) = false := decide_eq_false g
  show Gives Tryz.prog 56 _ _ _
  refine gives_x hXTs (fn := Tryz.f56) rfl rfl rfl rfl fun ρ w => ?_
  dsimp only [ruC, hoC, nxV, hlV, erV, cond_true, cond_false]
  refine sx hXTs [] 4000 rfl (by (simp [-List.getD_eq_getElem?_getD, -List.length_eq_zero_iff, conjP, getH, HE.so, s0, l2] <;> (first | omega | ((repeat' (refine And.intro ?_ ?_)) <;> (first | omega | exact decide_eq_false (by omega) | exact decide_eq_true (by omega)))))) ?_
  refine sx hXTs [.T] 4000 rfl (by (simp [-List.getD_eq_getElem?_getD, -List.length_eq_zero_iff, conjP, addOP, g])) ?_
  refine sx hXTs [.F] 4000 rfl (by (simp [-List.getD_eq_getElem?_getD, -List.length_eq_zero_iff, conjP, addOP, ewf, g2])) ?_
  (try simp only [ew1, sw1, two_nat, gd, if_neg g, ewf]; refine ss_end hXTs [0, 1, 2, 3] rfl rfl trivial rfl rfl rfl rfl ?hv ?hh ?hk ?ho; (case hv => exact clS); (case hh => exact clS); (case hk => exact clS); (case ho => exact clS))
set_option maxHeartbeats 4000000 in
theorem t7r {er : Int} (P : TPre T R start ⟨true, lg, key, 7, seq, i, fd, hd, tm, er, pl, sn, fl, bk, ep, tp, tl⟩ W st)  : Stp T R start ⟨true, lg, key, 7, seq, i, fd, hd, tm, er, pl, sn, fl, bk, ep, tp, tl⟩ W st kd wd vl ch ⟨⟨true, lg, key, 0, seq, i, fd, false, tm, er, pl, sn, fl, bk, ep, tp, tl⟩, W.set 2 (seq + 2), 2, 2, seq + 2, true⟩ := by
  have t1 := P.t1
  have t4 := P.t4
  have r1 := P.r1
  have r8 := P.r8
  have hst : startV (T : Int) 4 1 4 4 1 6 0 R key = (start : Int) := P.hst
  have hl := P.hl
  have s0 := P.s0
  have s1 := P.s1
  have k1 : 1 ≤ key := P.k1
  have k6 : key ≤ 6 := P.k6
  have q0 : 0 ≤ seq := P.q0
  have q1 : seq < 1000000000 := P.q1
  have f0 : 0 ≤ fd := P.f0
  have f1 : fd < R := P.f1
  have g0 : 0 ≤ fl := P.g0
  have n0 : 0 ≤ sn := P.n0
  have n1 : sn < 18446744073709551616 := P.n1
  have hr := right_TR t1 t4 r1 r8
  have l2 : (2 : Int) < (W.length : Int) := by omega
  have w2 := (P.hw 2).1
  have w2' := (P.hw 2).2
  have ew1 : IntKind.u64.wrap (seq + 1) = seq + 1 := wu64 (by omega) (by omega)
  have ew2 : IntKind.u64.wrap (seq + 2) = seq + 2 := wu64 (by omega) (by omega)
  have ewf : IntKind.i64.wrap (fd + 1) = fd + 1 := wi64 (by omega) (by omega)
  show Gives Tryz.prog 56 _ _ _
  refine gives_x hXTs (fn := Tryz.f56) rfl rfl rfl rfl fun ρ w => ?_
  dsimp only [ruC, hoC, nxV, hlV, cond_true, cond_false]
  refine sx hXTs [] 4000 rfl (by (simp [-List.getD_eq_getElem?_getD, -List.length_eq_zero_iff, conjP, getH, HE.so, s0, l2] <;> (first | omega | ((repeat' (refine And.intro ?_ ?_)) <;> (first | omega | exact decide_eq_false (by omega) | exact decide_eq_true (by omega)))))) ?_
  (try simp only [ew2, two_nat]; refine ss_end hXTs [0, 1, 2, 3] rfl rfl trivial rfl rfl rfl rfl ?hv ?hh ?hk ?ho; (case hv => exact clS); (case hh => exact clS); (case hk => exact clS); (case ho => exact clS))
set_option maxHeartbeats 4000000 in
theorem t4c (P : TPre T R start ⟨false, lg, key, 4, seq, i, fd, hd, tm, 0, pl, sn, fl, bk, ep, tp, tl⟩ W st)  : Stp T R start ⟨false, lg, key, 4, seq, i, fd, hd, tm, 0, pl, sn, fl, bk, ep, tp, tl⟩ W st kd wd vl ch ⟨⟨false, lg, key, 5, seq, i, fd, hd, tm, 0, pl, (W.getD (cP T pl.toNat) 0), fl, bk, ep, tp, tl⟩, W, 1, (cP T pl.toNat : Int), W.getD (cP T pl.toNat) 0, false⟩ := by
  have t1 := P.t1
  have t4 := P.t4
  have r1 := P.r1
  have r8 := P.r8
  have hst : startV (T : Int) 4 1 4 4 1 6 0 R key = (start : Int) := P.hst
  have hl := P.hl
  have s0 := P.s0
  have s1 := P.s1
  have k1 : 1 ≤ key := P.k1
  have k6 : key ≤ 6 := P.k6
  have q0 : 0 ≤ seq := P.q0
  have q1 : seq < 1000000000 := P.q1
  have f0 : 0 ≤ fd := P.f0
  have f1 : fd < R := P.f1
  have g0 : 0 ≤ fl := P.g0
  have n0 : 0 ≤ sn := P.n0
  have n1 : sn < 18446744073709551616 := P.n1
  have hr := right_TR t1 t4 r1 r8
  have l2 : (2 : Int) < (W.length : Int) := by omega
  have w2 := (P.hw 2).1
  have w2' := (P.hw 2).2
  have ew1 : IntKind.u64.wrap (seq + 1) = seq + 1 := wu64 (by omega) (by omega)
  have ew2 : IntKind.u64.wrap (seq + 2) = seq + 2 := wu64 (by omega) (by omega)
  have ewf : IntKind.i64.wrap (fd + 1) = fd + 1 := wi64 (by omega) (by omega)
  obtain ⟨p, hp, hpl⟩ := P.pe (by show 4 ≤ 4; omega) (by show 4 ≤ 6; omega)
  have hpl : pl = (p : Int) := hpl
  subst hpl
  have en := ent_at (R := R) hp
  have cn := ctl_at (R := R) hp
  have el := eP_lt' hl hp
  have cl_ := cP_lt' hl hp
  have c0 := (P.hw (cP T p)).1
  have c1 := (P.hw (cP T p)).2
  show Gives Tryz.prog 55 _ _ _
  refine gives_x hXTs (fn := Tryz.f55) rfl rfl rfl rfl fun ρ w => ?_
  dsimp only [ruC, hoC, nxV, hlV, erV, cond_true, cond_false]
  refine sx hXTs [] 4000 rfl (by (simp [-List.getD_eq_getElem?_getD, -List.length_eq_zero_iff, conjP, hr, s0, cn, cl_] <;> (first | omega | ((repeat' (refine And.intro ?_ ?_)) <;> (first | omega | exact decide_eq_false (by omega) | exact decide_eq_true (by omega)))))) ?_
  (try simp only [cn, Int.toNat_natCast]; refine ss_end hXTs [0, 1, 2, 3] rfl rfl trivial rfl rfl rfl rfl ?hv ?hh ?hk ?ho; (case hv => exact clS); (case hh => exact clS); (case hk => exact clS); (case ho => exact clS))
set_option maxHeartbeats 4000000 in
theorem t5c (P : TPre T R start ⟨false, lg, key, 5, seq, i, fd, hd, tm, 0, pl, sn, fl, bk, ep, tp, tl⟩ W st)  : Stp T R start ⟨false, lg, key, 5, seq, i, fd, hd, tm, 0, pl, sn, fl, bk, ep, tp, tl⟩ W st kd wd vl ch ⟨⟨false, lg, key, 6, seq, i, fd, hd, (st + 1), 0, pl, sn, fl, bk, (epW sn), pl, lg⟩, W.set (cP T pl.toNat) (bornW sn), 2, (cP T pl.toNat : Int), bornW sn, true⟩ := by
  have t1 := P.t1
  have t4 := P.t4
  have r1 := P.r1
  have r8 := P.r8
  have hst : startV (T : Int) 4 1 4 4 1 6 0 R key = (start : Int) := P.hst
  have hl := P.hl
  have s0 := P.s0
  have s1 := P.s1
  have k1 : 1 ≤ key := P.k1
  have k6 : key ≤ 6 := P.k6
  have q0 : 0 ≤ seq := P.q0
  have q1 : seq < 1000000000 := P.q1
  have f0 : 0 ≤ fd := P.f0
  have f1 : fd < R := P.f1
  have g0 : 0 ≤ fl := P.g0
  have n0 : 0 ≤ sn := P.n0
  have n1 : sn < 18446744073709551616 := P.n1
  have hr := right_TR t1 t4 r1 r8
  have l2 : (2 : Int) < (W.length : Int) := by omega
  have w2 := (P.hw 2).1
  have w2' := (P.hw 2).2
  have ew1 : IntKind.u64.wrap (seq + 1) = seq + 1 := wu64 (by omega) (by omega)
  have ew2 : IntKind.u64.wrap (seq + 2) = seq + 2 := wu64 (by omega) (by omega)
  have ewf : IntKind.i64.wrap (fd + 1) = fd + 1 := wi64 (by omega) (by omega)
  obtain ⟨p, hp, hpl⟩ := P.pe (by show 4 ≤ 5; omega) (by show 5 ≤ 6; omega)
  have hpl : pl = (p : Int) := hpl
  subst hpl
  have en := ent_at (R := R) hp
  have cn := ctl_at (R := R) hp
  have el := eP_lt' hl hp
  have cl_ := cP_lt' hl hp
  have c0 := (P.hw (cP T p)).1
  have c1 := (P.hw (cP T p)).2
  show Gives Tryz.prog 55 _ _ _
  refine gives_x hXTs (fn := Tryz.f55) rfl rfl rfl rfl fun ρ w => ?_
  dsimp only [ruC, hoC, nxV, hlV, erV, cond_true, cond_false]
  refine sx hXTs [] 4000 rfl (by (simp [-List.getD_eq_getElem?_getD, -List.length_eq_zero_iff, conjP, getH, HE.so, hr, s0, n0, n1, cn, cl_, Int.toNat_natCast] <;> (first | omega | ((repeat' (refine And.intro ?_ ?_)) <;> (first | omega | exact decide_eq_false (by omega) | exact decide_eq_true (by omega)))))) ?_
  (try simp only [cn, Int.toNat_natCast]; refine ss_end hXTs [0, 1, 2, 3] rfl rfl trivial rfl rfl rfl rfl ?hv ?hh ?hk ?ho; (case hv => exact clS); (case hh => exact clS); (case hk => exact clS); (case ho => exact clS))
set_option maxHeartbeats 4000000 in
theorem t6c (P : TPre T R start ⟨false, lg, key, 6, seq, i, fd, hd, tm, 0, pl, sn, fl, bk, ep, tp, tl⟩ W st)  : Stp T R start ⟨false, lg, key, 6, seq, i, fd, hd, tm, 0, pl, sn, fl, bk, ep, tp, tl⟩ W st kd wd vl ch ⟨⟨false, lg, key, 7, seq, i, fd, hd, tm, 0, pl, sn, fl, bk, ep, tp, tl⟩, W.set (eP pl.toNat) (enK key lg), 2, (eP pl.toNat : Int), enK key lg, true⟩ := by
  have t1 := P.t1
  have t4 := P.t4
  have r1 := P.r1
  have r8 := P.r8
  have hst : startV (T : Int) 4 1 4 4 1 6 0 R key = (start : Int) := P.hst
  have hl := P.hl
  have s0 := P.s0
  have s1 := P.s1
  have k1 : 1 ≤ key := P.k1
  have k6 : key ≤ 6 := P.k6
  have q0 : 0 ≤ seq := P.q0
  have q1 : seq < 1000000000 := P.q1
  have f0 : 0 ≤ fd := P.f0
  have f1 : fd < R := P.f1
  have g0 : 0 ≤ fl := P.g0
  have n0 : 0 ≤ sn := P.n0
  have n1 : sn < 18446744073709551616 := P.n1
  have hr := right_TR t1 t4 r1 r8
  have l2 : (2 : Int) < (W.length : Int) := by omega
  have w2 := (P.hw 2).1
  have w2' := (P.hw 2).2
  have ew1 : IntKind.u64.wrap (seq + 1) = seq + 1 := wu64 (by omega) (by omega)
  have ew2 : IntKind.u64.wrap (seq + 2) = seq + 2 := wu64 (by omega) (by omega)
  have ewf : IntKind.i64.wrap (fd + 1) = fd + 1 := wi64 (by omega) (by omega)
  obtain ⟨p, hp, hpl⟩ := P.pe (by show 4 ≤ 6; omega) (by show 6 ≤ 6; omega)
  have hpl : pl = (p : Int) := hpl
  subst hpl
  have en := ent_at (R := R) hp
  have cn := ctl_at (R := R) hp
  have el := eP_lt' hl hp
  have cl_ := cP_lt' hl hp
  have c0 := (P.hw (cP T p)).1
  have c1 := (P.hw (cP T p)).2
  have k9 : key ≤ 2147483647 := by omega
  show Gives Tryz.prog 55 _ _ _
  refine gives_x hXTs (fn := Tryz.f55) rfl rfl rfl rfl fun ρ w => ?_
  dsimp only [ruC, hoC, nxV, hlV, erV, cond_true, cond_false]
  refine sx hXTs [] 4000 rfl (by (simp [-List.getD_eq_getElem?_getD, -List.length_eq_zero_iff, conjP, getH, HE.so, hr, s0, k1, en, el, k9] <;> (first | omega | ((repeat' (refine And.intro ?_ ?_)) <;> (first | omega | exact decide_eq_false (by omega) | exact decide_eq_true (by omega)))))) ?_
  (try simp only [en, Int.toNat_natCast]; refine ss_end hXTs [0, 1, 2, 3] rfl rfl trivial rfl rfl rfl rfl ?hv ?hh ?hk ?ho; (case hv => exact clS); (case hh => exact clS); (case hk => exact clS); (case ho => exact clS))
set_option maxHeartbeats 4000000 in
theorem t4rn (P : TPre T R start ⟨true, lg, key, 4, seq, i, fd, hd, tm, 0, pl, sn, fl, bk, ep, tp, tl⟩ W st) (gb : buW (W.getD (cP T pl.toNat) 0) = false) : Stp T R start ⟨true, lg, key, 4, seq, i, fd, hd, tm, 0, pl, sn, fl, bk, ep, tp, tl⟩ W st kd wd vl ch ⟨⟨true, lg, key, 5, seq, i, fd, hd, tm, 0, pl, (W.getD (cP T pl.toNat) 0), fl, bk, ep, tp, tl⟩, W, 1, (cP T pl.toNat : Int), W.getD (cP T pl.toNat) 0, false⟩ := by
  have t1 := P.t1
  have t4 := P.t4
  have r1 := P.r1
  have r8 := P.r8
  have hst : startV (T : Int) 4 1 4 4 1 6 0 R key = (start : Int) := P.hst
  have hl := P.hl
  have s0 := P.s0
  have s1 := P.s1
  have k1 : 1 ≤ key := P.k1
  have k6 : key ≤ 6 := P.k6
  have q0 : 0 ≤ seq := P.q0
  have q1 : seq < 1000000000 := P.q1
  have f0 : 0 ≤ fd := P.f0
  have f1 : fd < R := P.f1
  have g0 : 0 ≤ fl := P.g0
  have n0 : 0 ≤ sn := P.n0
  have n1 : sn < 18446744073709551616 := P.n1
  have hr := right_TR t1 t4 r1 r8
  have l2 : (2 : Int) < (W.length : Int) := by omega
  have w2 := (P.hw 2).1
  have w2' := (P.hw 2).2
  have ew1 : IntKind.u64.wrap (seq + 1) = seq + 1 := wu64 (by omega) (by omega)
  have ew2 : IntKind.u64.wrap (seq + 2) = seq + 2 := wu64 (by omega) (by omega)
  have ewf : IntKind.i64.wrap (fd + 1) = fd + 1 := wi64 (by omega) (by omega)
  obtain ⟨p, hp, hpl⟩ := P.pe (by show 4 ≤ 4; omega) (by show 4 ≤ 6; omega)
  have hpl : pl = (p : Int) := hpl
  subst hpl
  have en := ent_at (R := R) hp
  have cn := ctl_at (R := R) hp
  have el := eP_lt' hl hp
  have cl_ := cP_lt' hl hp
  have c0 := (P.hw (cP T p)).1
  have c1 := (P.hw (cP T p)).2
  rw [Int.toNat_natCast] at gb
  show Gives Tryz.prog 56 _ _ _
  refine gives_x hXTs (fn := Tryz.f56) rfl rfl rfl rfl fun ρ w => ?_
  dsimp only [ruC, hoC, nxV, hlV, erV, cond_true, cond_false]
  refine sx hXTs [] 4000 rfl (by (simp [-List.getD_eq_getElem?_getD, -List.length_eq_zero_iff, conjP, hr, s0, cn, cl_, c0, c1, Int.toNat_natCast] <;> (first | omega | ((repeat' (refine And.intro ?_ ?_)) <;> (first | omega | exact decide_eq_false (by omega) | exact decide_eq_true (by omega)))))) ?_
  refine sx hXTs [.F] 4000 rfl (by (simp [-List.getD_eq_getElem?_getD, -List.length_eq_zero_iff, conjP, addOP, cn, Int.toNat_natCast, gb])) ?_
  (try simp only [cn, Int.toNat_natCast]; refine ss_end hXTs [0, 1, 2, 3] rfl rfl trivial rfl rfl rfl rfl ?hv ?hh ?hk ?ho; (case hv => exact clS); (case hh => exact clS); (case hk => exact clS); (case ho => exact clS))
set_option maxHeartbeats 4000000 in
theorem t4rl (P : TPre T R start ⟨true, lg, key, 4, seq, i, fd, hd, tm, 0, pl, sn, fl, bk, ep, tp, tl⟩ W st) (gb : buW (W.getD (cP T pl.toNat) 0) = true) (g2 : fl + 1 = R) : Stp T R start ⟨true, lg, key, 4, seq, i, fd, hd, tm, 0, pl, sn, fl, bk, ep, tp, tl⟩ W st kd wd vl ch ⟨⟨true, lg, key, 7, seq, i, fd, hd, tm, 17, pl, (W.getD (cP T pl.toNat) 0), (fl + 1), bk, ep, tp, tl⟩, W, 1, (cP T pl.toNat : Int), W.getD (cP T pl.toNat) 0, false⟩ := by
  have t1 := P.t1
  have t4 := P.t4
  have r1 := P.r1
  have r8 := P.r8
  have hst : startV (T : Int) 4 1 4 4 1 6 0 R key = (start : Int) := P.hst
  have hl := P.hl
  have s0 := P.s0
  have s1 := P.s1
  have k1 : 1 ≤ key := P.k1
  have k6 : key ≤ 6 := P.k6
  have q0 : 0 ≤ seq := P.q0
  have q1 : seq < 1000000000 := P.q1
  have f0 : 0 ≤ fd := P.f0
  have f1 : fd < R := P.f1
  have g0 : 0 ≤ fl := P.g0
  have n0 : 0 ≤ sn := P.n0
  have n1 : sn < 18446744073709551616 := P.n1
  have hr := right_TR t1 t4 r1 r8
  have l2 : (2 : Int) < (W.length : Int) := by omega
  have w2 := (P.hw 2).1
  have w2' := (P.hw 2).2
  have ew1 : IntKind.u64.wrap (seq + 1) = seq + 1 := wu64 (by omega) (by omega)
  have ew2 : IntKind.u64.wrap (seq + 2) = seq + 2 := wu64 (by omega) (by omega)
  have ewf : IntKind.i64.wrap (fd + 1) = fd + 1 := wi64 (by omega) (by omega)
  obtain ⟨p, hp, hpl⟩ := P.pe (by show 4 ≤ 4; omega) (by show 4 ≤ 6; omega)
  have hpl : pl = (p : Int) := hpl
  subst hpl
  have en := ent_at (R := R) hp
  have cn := ctl_at (R := R) hp
  have el := eP_lt' hl hp
  have cl_ := cP_lt' hl hp
  have c0 := (P.hw (cP T p)).1
  have c1 := (P.hw (cP T p)).2
  rw [Int.toNat_natCast] at gb
  have g1 : fl < R := P.g1 (by show 4 ≤ 6; omega)
  have ewg : IntKind.i64.wrap (fl + 1) = fl + 1 := wi64 (by omega) (by omega)
  have ewR : IntKind.i64.wrap (fl + 1) = R := by rw [ewg, g2]
  show Gives Tryz.prog 56 _ _ _
  refine gives_x hXTs (fn := Tryz.f56) rfl rfl rfl rfl fun ρ w => ?_
  dsimp only [ruC, hoC, nxV, hlV, erV, cond_true, cond_false]
  refine sx hXTs [] 4000 rfl (by (simp [-List.getD_eq_getElem?_getD, -List.length_eq_zero_iff, conjP, hr, s0, cn, cl_, c0, c1, Int.toNat_natCast] <;> (first | omega | ((repeat' (refine And.intro ?_ ?_)) <;> (first | omega | exact decide_eq_false (by omega) | exact decide_eq_true (by omega)))))) ?_
  refine sx hXTs [.T] 4000 rfl (by (simp [-List.getD_eq_getElem?_getD, -List.length_eq_zero_iff, conjP, addOP, cn, Int.toNat_natCast, gb])) ?_
  refine sx hXTs [.T] 4000 rfl (by (simp [-List.getD_eq_getElem?_getD, -List.length_eq_zero_iff, conjP, addOP, ewR])) ?_
  refine sx hXTs [.F] 4000 rfl (by (simp [-List.getD_eq_getElem?_getD, -List.length_eq_zero_iff, conjP, addOP])) ?_
  (try simp only [ewg, cn, Int.toNat_natCast]; refine ss_end hXTs [0, 1, 2, 3] rfl rfl trivial rfl rfl rfl rfl ?hv ?hh ?hk ?ho; (case hv => exact clS); (case hh => exact clS); (case hk => exact clS); (case ho => exact clS))
set_option maxHeartbeats 4000000 in
theorem t4rf (P : TPre T R start ⟨true, lg, key, 4, seq, i, fd, hd, tm, 0, pl, sn, fl, bk, ep, tp, tl⟩ W st) (gb : buW (W.getD (cP T pl.toNat) 0) = true) (g2 : ¬ fl + 1 = R) : Stp T R start ⟨true, lg, key, 4, seq, i, fd, hd, tm, 0, pl, sn, fl, bk, ep, tp, tl⟩ W st kd wd vl ch ⟨⟨true, lg, key, 4, seq, i, fd, hd, tm, 0, pl, (W.getD (cP T pl.toNat) 0), (fl + 1), bk, ep, tp, tl⟩, W, 1, (cP T pl.toNat : Int), W.getD (cP T pl.toNat) 0, false⟩ := by
  have t1 := P.t1
  have t4 := P.t4
  have r1 := P.r1
  have r8 := P.r8
  have hst : startV (T : Int) 4 1 4 4 1 6 0 R key = (start : Int) := P.hst
  have hl := P.hl
  have s0 := P.s0
  have s1 := P.s1
  have k1 : 1 ≤ key := P.k1
  have k6 : key ≤ 6 := P.k6
  have q0 : 0 ≤ seq := P.q0
  have q1 : seq < 1000000000 := P.q1
  have f0 : 0 ≤ fd := P.f0
  have f1 : fd < R := P.f1
  have g0 : 0 ≤ fl := P.g0
  have n0 : 0 ≤ sn := P.n0
  have n1 : sn < 18446744073709551616 := P.n1
  have hr := right_TR t1 t4 r1 r8
  have l2 : (2 : Int) < (W.length : Int) := by omega
  have w2 := (P.hw 2).1
  have w2' := (P.hw 2).2
  have ew1 : IntKind.u64.wrap (seq + 1) = seq + 1 := wu64 (by omega) (by omega)
  have ew2 : IntKind.u64.wrap (seq + 2) = seq + 2 := wu64 (by omega) (by omega)
  have ewf : IntKind.i64.wrap (fd + 1) = fd + 1 := wi64 (by omega) (by omega)
  obtain ⟨p, hp, hpl⟩ := P.pe (by show 4 ≤ 4; omega) (by show 4 ≤ 6; omega)
  have hpl : pl = (p : Int) := hpl
  subst hpl
  have en := ent_at (R := R) hp
  have cn := ctl_at (R := R) hp
  have el := eP_lt' hl hp
  have cl_ := cP_lt' hl hp
  have c0 := (P.hw (cP T p)).1
  have c1 := (P.hw (cP T p)).2
  rw [Int.toNat_natCast] at gb
  have g1 : fl < R := P.g1 (by show 4 ≤ 6; omega)
  have ewg : IntKind.i64.wrap (fl + 1) = fl + 1 := wi64 (by omega) (by omega)
  show Gives Tryz.prog 56 _ _ _
  refine gives_x hXTs (fn := Tryz.f56) rfl rfl rfl rfl fun ρ w => ?_
  dsimp only [ruC, hoC, nxV, hlV, erV, cond_true, cond_false]
  refine sx hXTs [] 4000 rfl (by (simp [-List.getD_eq_getElem?_getD, -List.length_eq_zero_iff, conjP, hr, s0, cn, cl_, c0, c1, Int.toNat_natCast] <;> (first | omega | ((repeat' (refine And.intro ?_ ?_)) <;> (first | omega | exact decide_eq_false (by omega) | exact decide_eq_true (by omega)))))) ?_
  refine sx hXTs [.T] 4000 rfl (by (simp [-List.getD_eq_getElem?_getD, -List.length_eq_zero_iff, conjP, addOP, cn, Int.toNat_natCast, gb])) ?_
  refine sx hXTs [.F] 4000 rfl (by (simp [-List.getD_eq_getElem?_getD, -List.length_eq_zero_iff, conjP, addOP, ewg, g2])) ?_
  (try simp only [ewg, cn, Int.toNat_natCast]; refine ss_end hXTs [0, 1, 2, 3] rfl rfl trivial rfl rfl rfl rfl ?hv ?hh ?hk ?ho; (case hv => exact clS); (case hh => exact clS); (case hk => exact clS); (case ho => exact clS))
set_option maxHeartbeats 4000000 in
theorem t5rh (P : TPre T R start ⟨true, lg, key, 5, seq, i, fd, hd, tm, 0, pl, sn, fl, bk, ep, tp, tl⟩ W st) (gs : W.getD (cP T pl.toNat) 0 = sn) : Stp T R start ⟨true, lg, key, 5, seq, i, fd, hd, tm, 0, pl, sn, fl, bk, ep, tp, tl⟩ W st kd wd vl ch ⟨⟨true, lg, key, 6, seq, i, fd, hd, (st + 1), 0, pl, sn, fl, (blW sn), ep, tp, tl⟩, W.set (cP T pl.toNat) (goneW sn), 3, (cP T pl.toNat : Int), goneW sn, true⟩ := by
  have t1 := P.t1
  have t4 := P.t4
  have r1 := P.r1
  have r8 := P.r8
  have hst : startV (T : Int) 4 1 4 4 1 6 0 R key = (start : Int) := P.hst
  have hl := P.hl
  have s0 := P.s0
  have s1 := P.s1
  have k1 : 1 ≤ key := P.k1
  have k6 : key ≤ 6 := P.k6
  have q0 : 0 ≤ seq := P.q0
  have q1 : seq < 1000000000 := P.q1
  have f0 : 0 ≤ fd := P.f0
  have f1 : fd < R := P.f1
  have g0 : 0 ≤ fl := P.g0
  have n0 : 0 ≤ sn := P.n0
  have n1 : sn < 18446744073709551616 := P.n1
  have hr := right_TR t1 t4 r1 r8
  have l2 : (2 : Int) < (W.length : Int) := by omega
  have w2 := (P.hw 2).1
  have w2' := (P.hw 2).2
  have ew1 : IntKind.u64.wrap (seq + 1) = seq + 1 := wu64 (by omega) (by omega)
  have ew2 : IntKind.u64.wrap (seq + 2) = seq + 2 := wu64 (by omega) (by omega)
  have ewf : IntKind.i64.wrap (fd + 1) = fd + 1 := wi64 (by omega) (by omega)
  obtain ⟨p, hp, hpl⟩ := P.pe (by show 4 ≤ 5; omega) (by show 5 ≤ 6; omega)
  have hpl : pl = (p : Int) := hpl
  subst hpl
  have en := ent_at (R := R) hp
  have cn := ctl_at (R := R) hp
  have el := eP_lt' hl hp
  have cl_ := cP_lt' hl hp
  have c0 := (P.hw (cP T p)).1
  have c1 := (P.hw (cP T p)).2
  rw [Int.toNat_natCast] at gs
  have sw1 : swW W ((cP T p : Nat) : Int) sn (goneW sn) = W.set (cP T p) (goneW sn) := by unfold swW; rw [Int.toNat_natCast, if_pos gs]
  show Gives Tryz.prog 56 _ _ _
  refine gives_x hXTs (fn := Tryz.f56) rfl rfl rfl rfl fun ρ w => ?_
  dsimp only [ruC, hoC, nxV, hlV, erV, cond_true, cond_false]
  refine sx hXTs [] 4000 rfl (by (simp [-List.getD_eq_getElem?_getD, -List.length_eq_zero_iff, conjP, getH, HE.so, hr, s0, n0, n1, cn, cl_] <;> (first | omega | ((repeat' (refine And.intro ?_ ?_)) <;> (first | omega | exact decide_eq_false (by omega) | exact decide_eq_true (by omega)))))) ?_
  refine sx hXTs [.F] 4000 rfl (by (simp [-List.getD_eq_getElem?_getD, -List.length_eq_zero_iff, conjP, getH, HE.so, n0, n1, cn, Int.toNat_natCast, gs])) ?_
  (try simp only [sw1, gs, if_true, decide_true, cn, Int.toNat_natCast]; refine ss_end hXTs [0, 1, 2, 3] rfl rfl trivial rfl rfl rfl rfl ?hv ?hh ?hk ?ho; (case hv => exact clS); (case hh => exact clS); (case hk => exact clS); (case ho => exact clS))
set_option maxHeartbeats 4000000 in
theorem t5rl (P : TPre T R start ⟨true, lg, key, 5, seq, i, fd, hd, tm, 0, pl, sn, fl, bk, ep, tp, tl⟩ W st) (gs : ¬ W.getD (cP T pl.toNat) 0 = sn) (g2 : fl + 1 = R) : Stp T R start ⟨true, lg, key, 5, seq, i, fd, hd, tm, 0, pl, sn, fl, bk, ep, tp, tl⟩ W st kd wd vl ch ⟨⟨true, lg, key, 7, seq, i, fd, hd, tm, 17, pl, sn, (fl + 1), bk, ep, tp, tl⟩, W, 3, (cP T pl.toNat : Int), W.getD (cP T pl.toNat) 0, false⟩ := by
  have t1 := P.t1
  have t4 := P.t4
  have r1 := P.r1
  have r8 := P.r8
  have hst : startV (T : Int) 4 1 4 4 1 6 0 R key = (start : Int) := P.hst
  have hl := P.hl
  have s0 := P.s0
  have s1 := P.s1
  have k1 : 1 ≤ key := P.k1
  have k6 : key ≤ 6 := P.k6
  have q0 : 0 ≤ seq := P.q0
  have q1 : seq < 1000000000 := P.q1
  have f0 : 0 ≤ fd := P.f0
  have f1 : fd < R := P.f1
  have g0 : 0 ≤ fl := P.g0
  have n0 : 0 ≤ sn := P.n0
  have n1 : sn < 18446744073709551616 := P.n1
  have hr := right_TR t1 t4 r1 r8
  have l2 : (2 : Int) < (W.length : Int) := by omega
  have w2 := (P.hw 2).1
  have w2' := (P.hw 2).2
  have ew1 : IntKind.u64.wrap (seq + 1) = seq + 1 := wu64 (by omega) (by omega)
  have ew2 : IntKind.u64.wrap (seq + 2) = seq + 2 := wu64 (by omega) (by omega)
  have ewf : IntKind.i64.wrap (fd + 1) = fd + 1 := wi64 (by omega) (by omega)
  obtain ⟨p, hp, hpl⟩ := P.pe (by show 4 ≤ 5; omega) (by show 5 ≤ 6; omega)
  have hpl : pl = (p : Int) := hpl
  subst hpl
  have en := ent_at (R := R) hp
  have cn := ctl_at (R := R) hp
  have el := eP_lt' hl hp
  have cl_ := cP_lt' hl hp
  have c0 := (P.hw (cP T p)).1
  have c1 := (P.hw (cP T p)).2
  rw [Int.toNat_natCast] at gs
  have sw1 : swW W ((cP T p : Nat) : Int) sn (goneW sn) = W := by unfold swW; rw [Int.toNat_natCast, if_neg gs]
  have g1 : fl < R := P.g1 (by show 5 ≤ 6; omega)
  have ewg : IntKind.i64.wrap (fl + 1) = fl + 1 := wi64 (by omega) (by omega)
  have ewR : IntKind.i64.wrap (fl + 1) = R := by rw [ewg, g2]
  show Gives Tryz.prog 56 _ _ _
  refine gives_x hXTs (fn := Tryz.f56) rfl rfl rfl rfl fun ρ w => ?_
  dsimp only [ruC, hoC, nxV, hlV, erV, cond_true, cond_false]
  refine sx hXTs [] 4000 rfl (by (simp [-List.getD_eq_getElem?_getD, -List.length_eq_zero_iff, conjP, getH, HE.so, hr, s0, n0, n1, cn, cl_] <;> (first | omega | ((repeat' (refine And.intro ?_ ?_)) <;> (first | omega | exact decide_eq_false (by omega) | exact decide_eq_true (by omega)))))) ?_
  refine sx hXTs [.T] 4000 rfl (by (simp [-List.getD_eq_getElem?_getD, -List.length_eq_zero_iff, conjP, addOP, cn, Int.toNat_natCast, gs])) ?_
  refine sx hXTs [.T] 4000 rfl (by (simp [-List.getD_eq_getElem?_getD, -List.length_eq_zero_iff, conjP, addOP, ewR])) ?_
  refine sx hXTs [.F] 4000 rfl (by (simp [-List.getD_eq_getElem?_getD, -List.length_eq_zero_iff, conjP, addOP])) ?_
  (try simp only [sw1, gs, if_false, decide_false, ewg, cn, Int.toNat_natCast]; refine ss_end hXTs [0, 1, 2, 3] rfl rfl trivial rfl rfl rfl rfl ?hv ?hh ?hk ?ho; (case hv => exact clS); (case hh => exact clS); (case hk => exact clS); (case ho => exact clS))
set_option maxHeartbeats 4000000 in
theorem t5rf (P : TPre T R start ⟨true, lg, key, 5, seq, i, fd, hd, tm, 0, pl, sn, fl, bk, ep, tp, tl⟩ W st) (gs : ¬ W.getD (cP T pl.toNat) 0 = sn) (g2 : ¬ fl + 1 = R) : Stp T R start ⟨true, lg, key, 5, seq, i, fd, hd, tm, 0, pl, sn, fl, bk, ep, tp, tl⟩ W st kd wd vl ch ⟨⟨true, lg, key, 4, seq, i, fd, hd, tm, 0, pl, sn, (fl + 1), bk, ep, tp, tl⟩, W, 3, (cP T pl.toNat : Int), W.getD (cP T pl.toNat) 0, false⟩ := by
  have t1 := P.t1
  have t4 := P.t4
  have r1 := P.r1
  have r8 := P.r8
  have hst : startV (T : Int) 4 1 4 4 1 6 0 R key = (start : Int) := P.hst
  have hl := P.hl
  have s0 := P.s0
  have s1 := P.s1
  have k1 : 1 ≤ key := P.k1
  have k6 : key ≤ 6 := P.k6
  have q0 : 0 ≤ seq := P.q0
  have q1 : seq < 1000000000 := P.q1
  have f0 : 0 ≤ fd := P.f0
  have f1 : fd < R := P.f1
  have g0 : 0 ≤ fl := P.g0
  have n0 : 0 ≤ sn := P.n0
  have n1 : sn < 18446744073709551616 := P.n1
  have hr := right_TR t1 t4 r1 r8
  have l2 : (2 : Int) < (W.length : Int) := by omega
  have w2 := (P.hw 2).1
  have w2' := (P.hw 2).2
  have ew1 : IntKind.u64.wrap (seq + 1) = seq + 1 := wu64 (by omega) (by omega)
  have ew2 : IntKind.u64.wrap (seq + 2) = seq + 2 := wu64 (by omega) (by omega)
  have ewf : IntKind.i64.wrap (fd + 1) = fd + 1 := wi64 (by omega) (by omega)
  obtain ⟨p, hp, hpl⟩ := P.pe (by show 4 ≤ 5; omega) (by show 5 ≤ 6; omega)
  have hpl : pl = (p : Int) := hpl
  subst hpl
  have en := ent_at (R := R) hp
  have cn := ctl_at (R := R) hp
  have el := eP_lt' hl hp
  have cl_ := cP_lt' hl hp
  have c0 := (P.hw (cP T p)).1
  have c1 := (P.hw (cP T p)).2
  rw [Int.toNat_natCast] at gs
  have sw1 : swW W ((cP T p : Nat) : Int) sn (goneW sn) = W := by unfold swW; rw [Int.toNat_natCast, if_neg gs]
  have g1 : fl < R := P.g1 (by show 5 ≤ 6; omega)
  have ewg : IntKind.i64.wrap (fl + 1) = fl + 1 := wi64 (by omega) (by omega)
  show Gives Tryz.prog 56 _ _ _
  refine gives_x hXTs (fn := Tryz.f56) rfl rfl rfl rfl fun ρ w => ?_
  dsimp only [ruC, hoC, nxV, hlV, erV, cond_true, cond_false]
  refine sx hXTs [] 4000 rfl (by (simp [-List.getD_eq_getElem?_getD, -List.length_eq_zero_iff, conjP, getH, HE.so, hr, s0, n0, n1, cn, cl_] <;> (first | omega | ((repeat' (refine And.intro ?_ ?_)) <;> (first | omega | exact decide_eq_false (by omega) | exact decide_eq_true (by omega)))))) ?_
  refine sx hXTs [.T] 4000 rfl (by (simp [-List.getD_eq_getElem?_getD, -List.length_eq_zero_iff, conjP, addOP, cn, Int.toNat_natCast, gs])) ?_
  refine sx hXTs [.F] 4000 rfl (by (simp [-List.getD_eq_getElem?_getD, -List.length_eq_zero_iff, conjP, addOP, ewg, g2])) ?_
  (try simp only [sw1, gs, if_false, decide_false, ewg, cn, Int.toNat_natCast]; refine ss_end hXTs [0, 1, 2, 3] rfl rfl trivial rfl rfl rfl rfl ?hv ?hh ?hk ?ho; (case hv => exact clS); (case hh => exact clS); (case hk => exact clS); (case ho => exact clS))
set_option maxHeartbeats 4000000 in
theorem t6r (P : TPre T R start ⟨true, lg, key, 6, seq, i, fd, hd, tm, 0, pl, sn, fl, bk, ep, tp, tl⟩ W st)  : Stp T R start ⟨true, lg, key, 6, seq, i, fd, hd, tm, 0, pl, sn, fl, bk, ep, tp, tl⟩ W st kd wd vl ch ⟨⟨true, lg, key, 7, seq, i, fd, hd, tm, 0, pl, sn, fl, bk, ep, tp, tl⟩, W.set (eP pl.toNat) 1, 2, (eP pl.toNat : Int), 1, true⟩ := by
  have t1 := P.t1
  have t4 := P.t4
  have r1 := P.r1
  have r8 := P.r8
  have hst : startV (T : Int) 4 1 4 4 1 6 0 R key = (start : Int) := P.hst
  have hl := P.hl
  have s0 := P.s0
  have s1 := P.s1
  have k1 : 1 ≤ key := P.k1
  have k6 : key ≤ 6 := P.k6
  have q0 : 0 ≤ seq := P.q0
  have q1 : seq < 1000000000 := P.q1
  have f0 : 0 ≤ fd := P.f0
  have f1 : fd < R := P.f1
  have g0 : 0 ≤ fl := P.g0
  have n0 : 0 ≤ sn := P.n0
  have n1 : sn < 18446744073709551616 := P.n1
  have hr := right_TR t1 t4 r1 r8
  have l2 : (2 : Int) < (W.length : Int) := by omega
  have w2 := (P.hw 2).1
  have w2' := (P.hw 2).2
  have ew1 : IntKind.u64.wrap (seq + 1) = seq + 1 := wu64 (by omega) (by omega)
  have ew2 : IntKind.u64.wrap (seq + 2) = seq + 2 := wu64 (by omega) (by omega)
  have ewf : IntKind.i64.wrap (fd + 1) = fd + 1 := wi64 (by omega) (by omega)
  obtain ⟨p, hp, hpl⟩ := P.pe (by show 4 ≤ 6; omega) (by show 6 ≤ 6; omega)
  have hpl : pl = (p : Int) := hpl
  subst hpl
  have en := ent_at (R := R) hp
  have cn := ctl_at (R := R) hp
  have el := eP_lt' hl hp
  have cl_ := cP_lt' hl hp
  have c0 := (P.hw (cP T p)).1
  have c1 := (P.hw (cP T p)).2
  show Gives Tryz.prog 56 _ _ _
  refine gives_x hXTs (fn := Tryz.f56) rfl rfl rfl rfl fun ρ w => ?_
  dsimp only [ruC, hoC, nxV, hlV, erV, cond_true, cond_false]
  refine sx hXTs [] 4000 rfl (by (simp [-List.getD_eq_getElem?_getD, -List.length_eq_zero_iff, conjP, hr, s0, en, el] <;> (first | omega | ((repeat' (refine And.intro ?_ ?_)) <;> (first | omega | exact decide_eq_false (by omega) | exact decide_eq_true (by omega)))))) ?_
  (try simp only [en, Int.toNat_natCast]; refine ss_end hXTs [0, 1, 2, 3] rfl rfl trivial rfl rfl rfl rfl ?hv ?hh ?hk ?ho; (case hv => exact clS); (case hh => exact clS); (case hk => exact clS); (case ho => exact clS))
end
end Go.Proofs.YtkkddjchkkaagaaGreatDoor
