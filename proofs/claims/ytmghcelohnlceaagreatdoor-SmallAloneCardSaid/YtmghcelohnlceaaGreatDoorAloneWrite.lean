/- SmallAlone: client 0 goes on alone, step by step. -/
import Derived.Test.YtmghcelohnlceaaGreatDoorAloneOn
import Derived.Test.YtmghcelohnlceaaGreatDoorAloneHold
namespace Go.Proofs.YtmghcelohnlceaaGreatDoor
open Go Go.Hx
set_option maxRecDepth 8000
structure SS0 where
  (j : Nat) (z : Wd) (ph : Nat) (ob : SO) (lw : List Int)
def s2H0 (e : HE) (R : Int) (f : Bool) (Wb : List Int) (z : Wd) (cell : SV) (e1 e2 : HE) : List HE :=
  [e, pinE RTV, .obj (xO R 3 5 7 z.n), AOx 4 z.W z.st z.kd z.wd z.vl z.ch, WO z.W, .obj (rbO (bsV f 6) z.stb z.kdb z.wdb z.vlb z.chb), bwE f Wb, .obj (kO 8 9 10 11), .obj (cqO cell .nilptr z.p0 z.q0 z.d0), .obj (cqO (wrP z.c1 14) .nilptr z.p1 z.q1 z.d1), .obj (cqO .nilptr (rdP z.c2 16) z.p2 z.q2 z.d2), .obj (cqO .nilptr (rdP z.c3 18) z.p3 z.q3 z.d3), e1, e2, wrE R z.c1 15, wlE z.c1, rdE R z.c2 17, rlE z.c2, rdE R z.c3 19, rlE z.c3]
def ssT0 (hd : Bool) (x : SS0) : List (Nat × SV) := [(7, .tt), (8, .ptr 2 0), (12, .ptr 8 0), (13, .bool hd), (14, .int .i64 (x.j : Int))]
def ssH0 (bb : Bool) (N : Nat) (o : Nat → Int × Int) (R : Int) (f : Bool) (Wb : List Int) (x : SS0) : List HE := match x.ph with
  | 0 => s2H0 (scE bb N o) R f Wb x.z (wrP x.z.c0 12) (wrE R x.z.c0 13) (wlE x.z.c0)
  | _ => s2H0 (scE bb N o) R f Wb x.z (.ptr 12 0) (.obj x.ob) (wdE x.lw)
/-- What is so all along. -/
structure SInv0 (R : Int) (i0 : Nat) (co : Option WS) (x : SS0) : Prop where
  jb : (x.j : Int) ≤ 8 * R
  b : BInv R (i0 + x.j) x.z
  m : MI x.z.W x.z.c0 x.z.c1
  oc : x.z.c1 = co
  ph2 : x.ph ≤ 2
  on : x.ph = 0 → ∃ s, x.z.c0 = some s ∧ muW R s x.z.W + (x.j : Int) ≤ 8 * R
  er : x.ph = 1 → ∃ ep sn fl cm tm i hd c, x.ob = wrO R ep 0 sn fl cm tm (erO c) 13 x.lw.length i hd ∧ (hdO co = true → c = 22 ∨ c = 17)
  fi : x.ph = 2 → (∃ ep sn fl cm tm i hd, x.ob = wrO R ep 0 sn fl cm tm .niliface 13 x.lw.length i hd) ∧ hdO co = false
section
variable {bb : Bool} {R : Int} {N i0 : Nat} {o : Nat → Int × Int} {co : Option WS} {f : Bool} {Wb : List Int} {hd0 : Bool} {x : SS0} {ρ : Nat → Nat × Nat} {w : World} {I : Act → World → Prop}
abbrev TJ0 (p : TQ) (bb : Bool) (R : Int) (N i0 : Nat) (o : Nat → Int × Int) (co : Option WS) (f : Bool) (Wb : List Int) (hd0 : Bool) (x : SS0) (ρ : Nat → Nat × Nat) (w : World) (I : Act → World → Prop) : Prop :=
  ∀ x', SInv0 R i0 co x' → x'.j = x.j + 1 → ∀ cs T H, Sub (FEnv Tryz.prog (XTq p).TE (hXTq p).te Tryz.f3 Tryz.f3.ntmps [scE bb N o, pinE RTV] (Is .tt [scE bb N o, pinE RTV]) ρ w) T H (ssT0 hd0 x') (ssH0 bb N o R f Wb x') →
    SS (hXTq p) (At ρ w) (Is .tt [scE bb N o, pinE RTV]) ⟨cs, [], Tryz.f3, Tryz.f3.ntmps, [scE bb N o, pinE RTV], downLp (contF Tryz.f3 21 [I]), T, H⟩
abbrev TG0 (p : TQ) (bb : Bool) (R : Int) (N : Nat) (o : Nat → Int × Int) (f : Bool) (Wb : List Int) (hd0 : Bool) (x : SS0) (ρ : Nat → Nat × Nat) (w : World) (I : Act → World → Prop) : Prop :=
  SS (hXTq p) (At ρ w) (Is .tt [scE bb N o, pinE RTV]) ⟨[], [], Tryz.f3, Tryz.f3.ntmps, [scE bb N o, pinE RTV], contF Tryz.f3 21 [I], ssT0 hd0 x, ssH0 bb N o R f Wb x⟩

set_option maxHeartbeats 4000000 in
theorem ts0e (h : SInv0 R i0 co x) (hi0 : i0 ≤ 101) (hj : (x.j : Int) < 8 * R) (hp : x.ph = 1) (J : ∀ p, TJ0 p bb R N i0 o co f Wb hd0 x ρ w I) : ∃ p, TG0 p bb R N o f Wb hd0 x ρ w I := by
  obtain ⟨j, ⟨W, st, kd, wd, vl, ch, stb, kdb, wdb, vlb, chb, f', n, c0, c1, c2, c3, p0, q0, p1, q1, p2, q2, p3, q3, d0, d1, d2, d3⟩, ph, ob, lw⟩ := x
  dsimp only at hp hj
  subst hp
  obtain ⟨ep, sn, fl, cm, tm, i, hd, c, e1, e2⟩ := h.er rfl
  dsimp only at e1
  subst e1
  have b := h.b
  have m := h.m
  have r1 := b.r1
  have r2 := b.r2
  have hw8 : IntKind.i64.wrap 8 = 8 := by decide
  have hR : IntKind.i64.wrap (8 * R) = 8 * R := wi64 (by omega) (by omega)
  have ewj : IntKind.i64.wrap ((j : Int) + 1) = ((j + 1 : Nat) : Int) := by rw [wi64 (by omega) (by omega)]; omega
  refine ⟨⟨R, f, none, 0, 0, false, 9, w00, r00⟩, ?_⟩
  have hX := hXTq ⟨R, f, none, 0, 0, false, 9, w00, r00⟩
  dsimp only [TG0, ssT0, ssH0, s2H0]
  refine sx hX [] 4000 rfl (by (simp [-List.getD_eq_getElem?_getD, -List.length_eq_zero_iff, conjP])) ?_
  refine sx hX [.T] 4000 rfl (by (simp [-List.getD_eq_getElem?_getD, -List.length_eq_zero_iff, conjP, getH, HE.so, hw8, hR, hj])) ?_
  (refine J _ ⟨j + 1, ⟨W, st, kd, wd, vl, ch, stb, kdb, wdb, vlb, chb, f', n, c0, c1, c2, c3, p0, q0, p1, q1, p2, q2, p3, q3, d0, d1, d2, d3⟩, 1, wrO R ep 0 sn fl cm tm (erO c) 13 lw.length i hd, lw⟩ ?iv rfl _ _ _ (sub_of [0, 1, 2, 3, 4, 5, 6, 7, 8, 9, 10, 11, 12, 13, 14, 15, 16, 17, 18, 19] rfl rfl rfl (by cases bb <;> rfl) ?tt ?hh (by (repeat' (first | exact rfl | exact trivial | exact sim_refl _ | refine And.intro ?_ ?_))) ?ok); (case tt => simp only [ewj]; (repeat' (first | exact rfl | exact trivial | exact sim_refl _ | refine And.intro ?_ ?_)); done); (case hh => (((repeat' (first | exact rfl | exact trivial | exact sim_refl _ | exact simO_refl _ | exact subE_same rfl ren_scE | exact subE_same rfl ren_wlE | exact subE_same rfl ren_rlE | exact subE_same rfl ren_bwE | exact subE_wrE rfl rfl | exact subE_rdE rfl rfl | exact sim_wrP rfl | exact sim_rdP rfl | exact sim_bsV rfl | assumption | refine And.intro ?_ ?_)); done))); (case ok => (((repeat' (first | exact rfl | exact trivial | exact okE_scE | exact okE_wlE | exact okE_rlE | exact okE_bwE | exact okE_wrE rfl | exact okE_rdE rfl | exact okP_wrP (i := 13) rfl | exact okP_wrP (i := 15) rfl | exact okP_rdP (i := 17) rfl | exact okP_rdP (i := 19) rfl | exact okP_bsV rfl | refine And.intro ?_ ?_)); done))); (case iv => exact ⟨by (try dsimp only); omega, BInv.nx b b.hl b.hw b.o0 b.o1 b.o2 b.o3 (hi := by show i0 + j + 1 ≤ 10000; omega), m, h.oc, h.ph2, fun q => by simp at q, fun _ => ⟨ep, sn, fl, cm, tm, i, hd, c, rfl, e2⟩, fun q => by simp at q⟩))
set_option maxHeartbeats 4000000 in
theorem ts0f (h : SInv0 R i0 co x) (hi0 : i0 ≤ 101) (hj : (x.j : Int) < 8 * R) (hp : x.ph = 2) (J : ∀ p, TJ0 p bb R N i0 o co f Wb hd0 x ρ w I) : ∃ p, TG0 p bb R N o f Wb hd0 x ρ w I := by
  obtain ⟨j, ⟨W, st, kd, wd, vl, ch, stb, kdb, wdb, vlb, chb, f', n, c0, c1, c2, c3, p0, q0, p1, q1, p2, q2, p3, q3, d0, d1, d2, d3⟩, ph, ob, lw⟩ := x
  dsimp only at hp hj
  subst hp
  obtain ⟨⟨ep, sn, fl, cm, tm, i, hd, e1⟩, e2⟩ := h.fi rfl
  dsimp only at e1
  subst e1
  have b := h.b
  have m := h.m
  have r1 := b.r1
  have r2 := b.r2
  have hw8 : IntKind.i64.wrap 8 = 8 := by decide
  have hR : IntKind.i64.wrap (8 * R) = 8 * R := wi64 (by omega) (by omega)
  have ewj : IntKind.i64.wrap ((j : Int) + 1) = ((j + 1 : Nat) : Int) := by rw [wi64 (by omega) (by omega)]; omega
  refine ⟨⟨R, f, none, 0, 0, false, 8, w00, r00⟩, ?_⟩
  have hX := hXTq ⟨R, f, none, 0, 0, false, 8, w00, r00⟩
  dsimp only [TG0, ssT0, ssH0, s2H0]
  refine sx hX [] 4000 rfl (by (simp [-List.getD_eq_getElem?_getD, -List.length_eq_zero_iff, conjP])) ?_
  refine sx hX [.T] 4000 rfl (by (simp [-List.getD_eq_getElem?_getD, -List.length_eq_zero_iff, conjP, getH, HE.so, hw8, hR, hj])) ?_
  (refine J _ ⟨j + 1, ⟨W, st, kd, wd, vl, ch, stb, kdb, wdb, vlb, chb, f', n, c0, c1, c2, c3, p0, q0, p1, q1, p2, q2, p3, q3, d0, d1, d2, d3⟩, 2, wrO R ep 0 sn fl cm tm .niliface 13 lw.length i hd, lw⟩ ?iv rfl _ _ _ (sub_of [0, 1, 2, 3, 4, 5, 6, 7, 8, 9, 10, 11, 12, 13, 14, 15, 16, 17, 18, 19] rfl rfl rfl (by cases bb <;> rfl) ?tt ?hh (by (repeat' (first | exact rfl | exact trivial | exact sim_refl _ | refine And.intro ?_ ?_))) ?ok); (case tt => simp only [ewj]; (repeat' (first | exact rfl | exact trivial | exact sim_refl _ | refine And.intro ?_ ?_)); done); (case hh => (((repeat' (first | exact rfl | exact trivial | exact sim_refl _ | exact simO_refl _ | exact subE_same rfl ren_scE | exact subE_same rfl ren_wlE | exact subE_same rfl ren_rlE | exact subE_same rfl ren_bwE | exact subE_wrE rfl rfl | exact subE_rdE rfl rfl | exact sim_wrP rfl | exact sim_rdP rfl | exact sim_bsV rfl | assumption | refine And.intro ?_ ?_)); done))); (case ok => (((repeat' (first | exact rfl | exact trivial | exact okE_scE | exact okE_wlE | exact okE_rlE | exact okE_bwE | exact okE_wrE rfl | exact okE_rdE rfl | exact okP_wrP (i := 13) rfl | exact okP_wrP (i := 15) rfl | exact okP_rdP (i := 17) rfl | exact okP_rdP (i := 19) rfl | exact okP_bsV rfl | refine And.intro ?_ ?_)); done))); (case iv => exact ⟨by (try dsimp only); omega, BInv.nx b b.hl b.hw b.o0 b.o1 b.o2 b.o3 (hi := by show i0 + j + 1 ≤ 10000; omega), m, h.oc, h.ph2, fun q => by simp at q, fun q => by simp at q, fun _ => ⟨⟨ep, sn, fl, cm, tm, i, hd, rfl⟩, e2⟩⟩))
set_option maxHeartbeats 4000000 in
theorem ts00 (h : SInv0 R i0 co x) (hi0 : i0 ≤ 101) (hj : (x.j : Int) < 8 * R) {r : WR} (hp : x.ph = 0) (hr : ∀ ep nx sn fl tm ii hd l, x.z.c0 = some ⟨ep, nx, sn, fl, tm, ii, hd, l⟩ → wStep R ⟨ep, nx, sn, fl, tm, ii, hd, l⟩ x.z.W x.z.st = r) (e0 : r.k = 0) (J : ∀ p, TJ0 p bb R N i0 o co f Wb hd0 x ρ w I) : ∃ p, TG0 p bb R N o f Wb hd0 x ρ w I := by
  obtain ⟨j, ⟨W, st, kd, wd, vl, ch, stb, kdb, wdb, vlb, chb, f', n, c0, c1, c2, c3, p0, q0, p1, q1, p2, q2, p3, q3, d0, d1, d2, d3⟩, ph, ob, lw⟩ := x
  dsimp only at hp hj
  subst hp
  obtain ⟨s, hs, hmu⟩ := h.on rfl
  dsimp only at hs hmu
  subst hs
  obtain ⟨ep, nx, sn, fl, tm, ii, hd, l⟩ := s
  have b := h.b
  have m := h.m
  have r1 := b.r1
  have r2 := b.r2
  have hw8 : IntKind.i64.wrap 8 = 8 := by decide
  have hR : IntKind.i64.wrap (8 * R) = 8 * R := wi64 (by omega) (by omega)
  have ewj : IntKind.i64.wrap ((j : Int) + 1) = ((j + 1 : Nat) : Int) := by rw [wi64 (by omega) (by omega)]; omega
  have ok : WOk R ⟨ep, nx, sn, fl, tm, ii, hd, l⟩ := b.o0
  have hl : W.length = 21 := b.hl
  have hl16 : 16 ≤ W.length := by omega
  have w0 : 0 ≤ W.getD 7 0 := (b.hw 7).1
  have w1 : W.getD 7 0 < 18446744073709551616 := (b.hw 7).2
  have s0 : 0 ≤ st := b.s0
  have s1 : st < 1000000 := by have h1 : st ≤ 100 + 2 * ((i0 + j : Nat) : Int) := b.s1; omega
  dsimp only at hr
  have hr := hr ep nx sn fl tm ii hd l rfl
  have aft := wAft (st := st) ok b.hw
  have hh := wHold (st := st) ok hl16
  have hdec := mu_dec (st := st) (W := W) ok
  have hend := wEnd (st := st) (W := W) ok
  have hheld := end_held (st := st) (m) ok b.o1 hl16
  rw [hr] at aft hh hdec hend hheld
  have hLn : r.W.length = 21 := aft.hl.trans hl
  have hWn := aft.hw
  have hoc : c1 = co := h.oc
  obtain ⟨hcm0, okn⟩ := aft.go e0
  have hd1 := hdec e0
  have hp1 := mu_pos (W := r.W) okn
  dsimp only at hd1 hp1
  refine ⟨⟨R, f, none, 0, 0, false, 0, r, r00⟩, ?_⟩
  have hX := hXTq ⟨R, f, none, 0, 0, false, 0, r, r00⟩
  dsimp only [TG0, ssT0, ssH0, s2H0]
  refine sx hX [] 4000 rfl (by (simp [-List.getD_eq_getElem?_getD, -List.length_eq_zero_iff, conjP])) ?_
  refine sx hX [.T] 4000 rfl (by (simp [-List.getD_eq_getElem?_getD, -List.length_eq_zero_iff, conjP, getH, HE.so, hw8, hR, hj, r1, r2, hl, w0, w1, s0, s1, ok, hr, e0])) ?_
  (simp only [hcm0]; refine J _ ⟨j + 1, ⟨r.W, st + 1, r.kd, r.wd, r.vl, r.ch, stb, kdb, wdb, vlb, chb, f', n, some ⟨ep, r.nx, r.sn, r.fl, r.tm, r.i, r.hd, l⟩, c1, c2, c3, p0, q0, p1, q1, p2, q2, p3, q3, d0, d1, d2, d3⟩, 0, ob, lw⟩ ?iv rfl _ _ _ (sub_of [0, 1, 2, 3, 4, 5, 6, 7, 8, 9, 10, 11, 12, 13, 14, 15, 16, 17, 18, 19] rfl rfl rfl (by cases bb <;> rfl) ?tt ?hh (by (repeat' (first | exact rfl | exact trivial | exact sim_refl _ | refine And.intro ?_ ?_))) ?ok); (case tt => simp only [ewj]; (repeat' (first | exact rfl | exact trivial | exact sim_refl _ | refine And.intro ?_ ?_)); done); (case hh => (((repeat' (first | exact rfl | exact trivial | exact sim_refl _ | exact simO_refl _ | exact subE_same rfl ren_scE | exact subE_same rfl ren_wlE | exact subE_same rfl ren_rlE | exact subE_same rfl ren_bwE | exact subE_wrE rfl rfl | exact subE_rdE rfl rfl | exact sim_wrP rfl | exact sim_rdP rfl | exact sim_bsV rfl | assumption | refine And.intro ?_ ?_)); done))); (case ok => (((repeat' (first | exact rfl | exact trivial | exact okE_scE | exact okE_wlE | exact okE_rlE | exact okE_bwE | exact okE_wrE rfl | exact okE_rdE rfl | exact okP_wrP (i := 13) rfl | exact okP_wrP (i := 15) rfl | exact okP_rdP (i := 17) rfl | exact okP_rdP (i := 19) rfl | exact okP_bsV rfl | refine And.intro ?_ ?_)); done))); (case iv => exact ⟨by (try dsimp only); omega, BInv.nx b hLn hWn (okn) (b.o1) (b.o2) (b.o3) (hi := by show i0 + j + 1 ≤ 10000; omega), (m).on ok b.o1 hh e0, h.oc, by (try dsimp only); omega, fun _ => ⟨_, rfl, by (try dsimp only); omega⟩, fun q => by simp at q, fun q => by simp at q⟩))
set_option maxHeartbeats 4000000 in
theorem ts01 (h : SInv0 R i0 co x) (hi0 : i0 ≤ 101) (hj : (x.j : Int) < 8 * R) {r : WR} (hp : x.ph = 0) (hr : ∀ ep nx sn fl tm ii hd l, x.z.c0 = some ⟨ep, nx, sn, fl, tm, ii, hd, l⟩ → wStep R ⟨ep, nx, sn, fl, tm, ii, hd, l⟩ x.z.W x.z.st = r) (e0 : r.k = 1) (J : ∀ p, TJ0 p bb R N i0 o co f Wb hd0 x ρ w I) : ∃ p, TG0 p bb R N o f Wb hd0 x ρ w I := by
  obtain ⟨j, ⟨W, st, kd, wd, vl, ch, stb, kdb, wdb, vlb, chb, f', n, c0, c1, c2, c3, p0, q0, p1, q1, p2, q2, p3, q3, d0, d1, d2, d3⟩, ph, ob, lw⟩ := x
  dsimp only at hp hj
  subst hp
  obtain ⟨s, hs, hmu⟩ := h.on rfl
  dsimp only at hs hmu
  subst hs
  obtain ⟨ep, nx, sn, fl, tm, ii, hd, l⟩ := s
  have b := h.b
  have m := h.m
  have r1 := b.r1
  have r2 := b.r2
  have hw8 : IntKind.i64.wrap 8 = 8 := by decide
  have hR : IntKind.i64.wrap (8 * R) = 8 * R := wi64 (by omega) (by omega)
  have ewj : IntKind.i64.wrap ((j : Int) + 1) = ((j + 1 : Nat) : Int) := by rw [wi64 (by omega) (by omega)]; omega
  have ok : WOk R ⟨ep, nx, sn, fl, tm, ii, hd, l⟩ := b.o0
  have hl : W.length = 21 := b.hl
  have hl16 : 16 ≤ W.length := by omega
  have w0 : 0 ≤ W.getD 7 0 := (b.hw 7).1
  have w1 : W.getD 7 0 < 18446744073709551616 := (b.hw 7).2
  have s0 : 0 ≤ st := b.s0
  have s1 : st < 1000000 := by have h1 : st ≤ 100 + 2 * ((i0 + j : Nat) : Int) := b.s1; omega
  dsimp only at hr
  have hr := hr ep nx sn fl tm ii hd l rfl
  have aft := wAft (st := st) ok b.hw
  have hh := wHold (st := st) ok hl16
  have hdec := mu_dec (st := st) (W := W) ok
  have hend := wEnd (st := st) (W := W) ok
  have hheld := end_held (st := st) (m) ok b.o1 hl16
  rw [hr] at aft hh hdec hend hheld
  have hLn : r.W.length = 21 := aft.hl.trans hl
  have hWn := aft.hw
  have hoc : c1 = co := h.oc
  have hnx := hend.1 (by omega)
  refine ⟨⟨R, f, none, 0, 0, false, 1, r, r00⟩, ?_⟩
  have hX := hXTq ⟨R, f, none, 0, 0, false, 1, r, r00⟩
  dsimp only [TG0, ssT0, ssH0, s2H0]
  refine sx hX [] 4000 rfl (by (simp [-List.getD_eq_getElem?_getD, -List.length_eq_zero_iff, conjP])) ?_
  refine sx hX [.T] 4000 rfl (by (simp [-List.getD_eq_getElem?_getD, -List.length_eq_zero_iff, conjP, getH, HE.so, hw8, hR, hj, r1, r2, hl, w0, w1, s0, s1, ok, hr, e0])) ?_
  (simp only [hnx]; refine J _ ⟨j + 1, ⟨r.W, st + 1, r.kd, r.wd, r.vl, r.ch, stb, kdb, wdb, vlb, chb, f', n, none, c1, c2, c3, p0, q0, p1, q1, p2, q2, p3, q3, d0, d1, d2, d3⟩, 1, wrO R ep 0 r.sn r.fl r.cm r.tm (erO r.c) 13 l.length r.i r.hd, l⟩ ?iv rfl _ _ _ (sub_of [0, 1, 2, 3, 4, 5, 6, 7, 8, 9, 10, 11, 12, 13, 14, 15, 16, 17, 18, 19] rfl rfl rfl (by cases bb <;> rfl) ?tt ?hh (by (repeat' (first | exact rfl | exact trivial | exact sim_refl _ | refine And.intro ?_ ?_))) ?ok); (case tt => simp only [ewj]; (repeat' (first | exact rfl | exact trivial | exact sim_refl _ | refine And.intro ?_ ?_)); done); (case hh => (((repeat' (first | exact rfl | exact trivial | exact sim_refl _ | exact simO_refl _ | exact subE_same rfl ren_scE | exact subE_same rfl ren_wlE | exact subE_same rfl ren_rlE | exact subE_same rfl ren_bwE | exact subE_wrE rfl rfl | exact subE_rdE rfl rfl | exact sim_wrP rfl | exact sim_rdP rfl | exact sim_bsV rfl | assumption | refine And.intro ?_ ?_)); done))); (case ok => (((repeat' (first | exact rfl | exact trivial | exact okE_scE | exact okE_wlE | exact okE_rlE | exact okE_bwE | exact okE_wrE rfl | exact okE_rdE rfl | exact okP_wrP (i := 13) rfl | exact okP_wrP (i := 15) rfl | exact okP_rdP (i := 17) rfl | exact okP_rdP (i := 19) rfl | exact okP_bsV rfl | refine And.intro ?_ ?_)); done))); (case iv => exact ⟨by (try dsimp only); omega, BInv.nx b hLn hWn (trivial) (b.o1) (b.o2) (b.o3) (hi := by show i0 + j + 1 ≤ 10000; omega), (m).off hh (.inl e0), h.oc, by (try dsimp only); omega, fun q => by simp at q, fun _ => ⟨_, _, _, _, _, _, _, _, rfl, fun q => (hheld (by rw [hoc]; exact q)).1 e0⟩, fun q => by simp at q⟩))
set_option maxHeartbeats 4000000 in
theorem ts02 (h : SInv0 R i0 co x) (hi0 : i0 ≤ 101) (hj : (x.j : Int) < 8 * R) {r : WR} (hp : x.ph = 0) (hr : ∀ ep nx sn fl tm ii hd l, x.z.c0 = some ⟨ep, nx, sn, fl, tm, ii, hd, l⟩ → wStep R ⟨ep, nx, sn, fl, tm, ii, hd, l⟩ x.z.W x.z.st = r) (e0 : r.k = 2) (J : ∀ p, TJ0 p bb R N i0 o co f Wb hd0 x ρ w I) : ∃ p, TG0 p bb R N o f Wb hd0 x ρ w I := by
  obtain ⟨j, ⟨W, st, kd, wd, vl, ch, stb, kdb, wdb, vlb, chb, f', n, c0, c1, c2, c3, p0, q0, p1, q1, p2, q2, p3, q3, d0, d1, d2, d3⟩, ph, ob, lw⟩ := x
  dsimp only at hp hj
  subst hp
  obtain ⟨s, hs, hmu⟩ := h.on rfl
  dsimp only at hs hmu
  subst hs
  obtain ⟨ep, nx, sn, fl, tm, ii, hd, l⟩ := s
  have b := h.b
  have m := h.m
  have r1 := b.r1
  have r2 := b.r2
  have hw8 : IntKind.i64.wrap 8 = 8 := by decide
  have hR : IntKind.i64.wrap (8 * R) = 8 * R := wi64 (by omega) (by omega)
  have ewj : IntKind.i64.wrap ((j : Int) + 1) = ((j + 1 : Nat) : Int) := by rw [wi64 (by omega) (by omega)]; omega
  have ok : WOk R ⟨ep, nx, sn, fl, tm, ii, hd, l⟩ := b.o0
  have hl : W.length = 21 := b.hl
  have hl16 : 16 ≤ W.length := by omega
  have w0 : 0 ≤ W.getD 7 0 := (b.hw 7).1
  have w1 : W.getD 7 0 < 18446744073709551616 := (b.hw 7).2
  have s0 : 0 ≤ st := b.s0
  have s1 : st < 1000000 := by have h1 : st ≤ 100 + 2 * ((i0 + j : Nat) : Int) := b.s1; omega
  dsimp only at hr
  have hr := hr ep nx sn fl tm ii hd l rfl
  have aft := wAft (st := st) ok b.hw
  have hh := wHold (st := st) ok hl16
  have hdec := mu_dec (st := st) (W := W) ok
  have hend := wEnd (st := st) (W := W) ok
  have hheld := end_held (st := st) (m) ok b.o1 hl16
  rw [hr] at aft hh hdec hend hheld
  have hLn : r.W.length = 21 := aft.hl.trans hl
  have hWn := aft.hw
  have hoc : c1 = co := h.oc
  have hnx := hend.1 (by omega)
  have hco : hdO co = false := by
    rcases q : hdO co with _ | _
    · rfl
    · exact absurd e0 (hheld (by rw [hoc]; exact q)).2
  refine ⟨⟨R, f, none, 0, 0, false, 2, r, r00⟩, ?_⟩
  have hX := hXTq ⟨R, f, none, 0, 0, false, 2, r, r00⟩
  dsimp only [TG0, ssT0, ssH0, s2H0]
  refine sx hX [] 4000 rfl (by (simp [-List.getD_eq_getElem?_getD, -List.length_eq_zero_iff, conjP])) ?_
  refine sx hX [.T] 4000 rfl (by (simp [-List.getD_eq_getElem?_getD, -List.length_eq_zero_iff, conjP, getH, HE.so, hw8, hR, hj, r1, r2, hl, w0, w1, s0, s1, ok, hr, e0])) ?_
  (simp only [hnx]; refine J _ ⟨j + 1, ⟨r.W, st + 1, r.kd, r.wd, r.vl, r.ch, stb, kdb, wdb, vlb, chb, f', n, none, c1, c2, c3, p0, q0, p1, q1, p2, q2, p3, q3, d0, d1, d2, d3⟩, 2, wrO R ep 0 r.sn r.fl r.cm r.tm .niliface 13 l.length r.i r.hd, l⟩ ?iv rfl _ _ _ (sub_of [0, 1, 2, 3, 4, 5, 6, 7, 8, 9, 10, 11, 12, 13, 14, 15, 16, 17, 18, 19] rfl rfl rfl (by cases bb <;> rfl) ?tt ?hh (by (repeat' (first | exact rfl | exact trivial | exact sim_refl _ | refine And.intro ?_ ?_))) ?ok); (case tt => simp only [ewj]; (repeat' (first | exact rfl | exact trivial | exact sim_refl _ | refine And.intro ?_ ?_)); done); (case hh => (((repeat' (first | exact rfl | exact trivial | exact sim_refl _ | exact simO_refl _ | exact subE_same rfl ren_scE | exact subE_same rfl ren_wlE | exact subE_same rfl ren_rlE | exact subE_same rfl ren_bwE | exact subE_wrE rfl rfl | exact subE_rdE rfl rfl | exact sim_wrP rfl | exact sim_rdP rfl | exact sim_bsV rfl | assumption | refine And.intro ?_ ?_)); done))); (case ok => (((repeat' (first | exact rfl | exact trivial | exact okE_scE | exact okE_wlE | exact okE_rlE | exact okE_bwE | exact okE_wrE rfl | exact okE_rdE rfl | exact okP_wrP (i := 13) rfl | exact okP_wrP (i := 15) rfl | exact okP_rdP (i := 17) rfl | exact okP_rdP (i := 19) rfl | exact okP_bsV rfl | refine And.intro ?_ ?_)); done))); (case iv => exact ⟨by (try dsimp only); omega, BInv.nx b hLn hWn (trivial) (b.o1) (b.o2) (b.o3) (hi := by show i0 + j + 1 ≤ 10000; omega), (m).off hh (.inr e0), h.oc, by (try dsimp only); omega, fun q => by simp at q, fun q => by simp at q, fun _ => ⟨⟨_, _, _, _, _, _, _, rfl⟩, hco⟩⟩))
end
end Go.Proofs.YtmghcelohnlceaaGreatDoor


/- SmallAlone: client 1 goes on alone, step by step. -/
namespace Go.Proofs.YtmghcelohnlceaaGreatDoor
open Go Go.Hx
set_option maxRecDepth 8000
structure SS1 where
  (j : Nat) (z : Wd) (ph : Nat) (ob : SO) (lw : List Int)
def s2H1 (e : HE) (R : Int) (f : Bool) (Wb : List Int) (z : Wd) (cell : SV) (e1 e2 : HE) : List HE :=
  [e, pinE RTV, .obj (xO R 3 5 7 z.n), AOx 4 z.W z.st z.kd z.wd z.vl z.ch, WO z.W, .obj (rbO (bsV f 6) z.stb z.kdb z.wdb z.vlb z.chb), bwE f Wb, .obj (kO 8 9 10 11), .obj (cqO (wrP z.c0 12) .nilptr z.p0 z.q0 z.d0), .obj (cqO cell .nilptr z.p1 z.q1 z.d1), .obj (cqO .nilptr (rdP z.c2 16) z.p2 z.q2 z.d2), .obj (cqO .nilptr (rdP z.c3 18) z.p3 z.q3 z.d3), wrE R z.c0 13, wlE z.c0, e1, e2, rdE R z.c2 17, rlE z.c2, rdE R z.c3 19, rlE z.c3]
def ssT1 (hd : Bool) (x : SS1) : List (Nat × SV) := [(7, .tt), (8, .ptr 2 0), (12, .ptr 9 0), (13, .bool hd), (14, .int .i64 (x.j : Int))]
def ssH1 (bb : Bool) (N : Nat) (o : Nat → Int × Int) (R : Int) (f : Bool) (Wb : List Int) (x : SS1) : List HE := match x.ph with
  | 0 => s2H1 (scE bb N o) R f Wb x.z (wrP x.z.c1 14) (wrE R x.z.c1 15) (wlE x.z.c1)
  | _ => s2H1 (scE bb N o) R f Wb x.z (.ptr 14 0) (.obj x.ob) (wdE x.lw)
/-- What is so all along. -/
structure SInv1 (R : Int) (i0 : Nat) (co : Option WS) (x : SS1) : Prop where
  jb : (x.j : Int) ≤ 8 * R
  b : BInv R (i0 + x.j) x.z
  m : MI x.z.W x.z.c0 x.z.c1
  oc : x.z.c0 = co
  ph2 : x.ph ≤ 2
  on : x.ph = 0 → ∃ s, x.z.c1 = some s ∧ muW R s x.z.W + (x.j : Int) ≤ 8 * R
  er : x.ph = 1 → ∃ ep sn fl cm tm i hd c, x.ob = wrO R ep 0 sn fl cm tm (erO c) 15 x.lw.length i hd ∧ (hdO co = true → c = 22 ∨ c = 17)
  fi : x.ph = 2 → (∃ ep sn fl cm tm i hd, x.ob = wrO R ep 0 sn fl cm tm .niliface 15 x.lw.length i hd) ∧ hdO co = false
section
variable {bb : Bool} {R : Int} {N i0 : Nat} {o : Nat → Int × Int} {co : Option WS} {f : Bool} {Wb : List Int} {hd0 : Bool} {x : SS1} {ρ : Nat → Nat × Nat} {w : World} {I : Act → World → Prop}
abbrev TJ1 (p : TQ) (bb : Bool) (R : Int) (N i0 : Nat) (o : Nat → Int × Int) (co : Option WS) (f : Bool) (Wb : List Int) (hd0 : Bool) (x : SS1) (ρ : Nat → Nat × Nat) (w : World) (I : Act → World → Prop) : Prop :=
  ∀ x', SInv1 R i0 co x' → x'.j = x.j + 1 → ∀ cs T H, Sub (FEnv Tryz.prog (XTq p).TE (hXTq p).te Tryz.f3 Tryz.f3.ntmps [scE bb N o, pinE RTV] (Is .tt [scE bb N o, pinE RTV]) ρ w) T H (ssT1 hd0 x') (ssH1 bb N o R f Wb x') →
    SS (hXTq p) (At ρ w) (Is .tt [scE bb N o, pinE RTV]) ⟨cs, [], Tryz.f3, Tryz.f3.ntmps, [scE bb N o, pinE RTV], downLp (contF Tryz.f3 21 [I]), T, H⟩
abbrev TG1 (p : TQ) (bb : Bool) (R : Int) (N : Nat) (o : Nat → Int × Int) (f : Bool) (Wb : List Int) (hd0 : Bool) (x : SS1) (ρ : Nat → Nat × Nat) (w : World) (I : Act → World → Prop) : Prop :=
  SS (hXTq p) (At ρ w) (Is .tt [scE bb N o, pinE RTV]) ⟨[], [], Tryz.f3, Tryz.f3.ntmps, [scE bb N o, pinE RTV], contF Tryz.f3 21 [I], ssT1 hd0 x, ssH1 bb N o R f Wb x⟩

set_option maxHeartbeats 4000000 in
theorem ts1e (h : SInv1 R i0 co x) (hi0 : i0 ≤ 101) (hj : (x.j : Int) < 8 * R) (hp : x.ph = 1) (J : ∀ p, TJ1 p bb R N i0 o co f Wb hd0 x ρ w I) : ∃ p, TG1 p bb R N o f Wb hd0 x ρ w I := by
  obtain ⟨j, ⟨W, st, kd, wd, vl, ch, stb, kdb, wdb, vlb, chb, f', n, c0, c1, c2, c3, p0, q0, p1, q1, p2, q2, p3, q3, d0, d1, d2, d3⟩, ph, ob, lw⟩ := x
  dsimp only at hp hj
  subst hp
  obtain ⟨ep, sn, fl, cm, tm, i, hd, c, e1, e2⟩ := h.er rfl
  dsimp only at e1
  subst e1
  have b := h.b
  have m := h.m
  have r1 := b.r1
  have r2 := b.r2
  have hw8 : IntKind.i64.wrap 8 = 8 := by decide
  have hR : IntKind.i64.wrap (8 * R) = 8 * R := wi64 (by omega) (by omega)
  have ewj : IntKind.i64.wrap ((j : Int) + 1) = ((j + 1 : Nat) : Int) := by rw [wi64 (by omega) (by omega)]; omega
  refine ⟨⟨R, f, none, 0, 0, false, 9, w00, r00⟩, ?_⟩
  have hX := hXTq ⟨R, f, none, 0, 0, false, 9, w00, r00⟩
  dsimp only [TG1, ssT1, ssH1, s2H1]
  refine sx hX [] 4000 rfl (by (simp [-List.getD_eq_getElem?_getD, -List.length_eq_zero_iff, conjP])) ?_
  refine sx hX [.T] 4000 rfl (by (simp [-List.getD_eq_getElem?_getD, -List.length_eq_zero_iff, conjP, getH, HE.so, hw8, hR, hj])) ?_
  (refine J _ ⟨j + 1, ⟨W, st, kd, wd, vl, ch, stb, kdb, wdb, vlb, chb, f', n, c0, c1, c2, c3, p0, q0, p1, q1, p2, q2, p3, q3, d0, d1, d2, d3⟩, 1, wrO R ep 0 sn fl cm tm (erO c) 15 lw.length i hd, lw⟩ ?iv rfl _ _ _ (sub_of [0, 1, 2, 3, 4, 5, 6, 7, 8, 9, 10, 11, 12, 13, 14, 15, 16, 17, 18, 19] rfl rfl rfl (by cases bb <;> rfl) ?tt ?hh (by (repeat' (first | exact rfl | exact trivial | exact sim_refl _ | refine And.intro ?_ ?_))) ?ok); (case tt => simp only [ewj]; (repeat' (first | exact rfl | exact trivial | exact sim_refl _ | refine And.intro ?_ ?_)); done); (case hh => (((repeat' (first | exact rfl | exact trivial | exact sim_refl _ | exact simO_refl _ | exact subE_same rfl ren_scE | exact subE_same rfl ren_wlE | exact subE_same rfl ren_rlE | exact subE_same rfl ren_bwE | exact subE_wrE rfl rfl | exact subE_rdE rfl rfl | exact sim_wrP rfl | exact sim_rdP rfl | exact sim_bsV rfl | assumption | refine And.intro ?_ ?_)); done))); (case ok => (((repeat' (first | exact rfl | exact trivial | exact okE_scE | exact okE_wlE | exact okE_rlE | exact okE_bwE | exact okE_wrE rfl | exact okE_rdE rfl | exact okP_wrP (i := 13) rfl | exact okP_wrP (i := 15) rfl | exact okP_rdP (i := 17) rfl | exact okP_rdP (i := 19) rfl | exact okP_bsV rfl | refine And.intro ?_ ?_)); done))); (case iv => exact ⟨by (try dsimp only); omega, BInv.nx b b.hl b.hw b.o0 b.o1 b.o2 b.o3 (hi := by show i0 + j + 1 ≤ 10000; omega), m, h.oc, h.ph2, fun q => by simp at q, fun _ => ⟨ep, sn, fl, cm, tm, i, hd, c, rfl, e2⟩, fun q => by simp at q⟩))
set_option maxHeartbeats 4000000 in
theorem ts1f (h : SInv1 R i0 co x) (hi0 : i0 ≤ 101) (hj : (x.j : Int) < 8 * R) (hp : x.ph = 2) (J : ∀ p, TJ1 p bb R N i0 o co f Wb hd0 x ρ w I) : ∃ p, TG1 p bb R N o f Wb hd0 x ρ w I := by
  obtain ⟨j, ⟨W, st, kd, wd, vl, ch, stb, kdb, wdb, vlb, chb, f', n, c0, c1, c2, c3, p0, q0, p1, q1, p2, q2, p3, q3, d0, d1, d2, d3⟩, ph, ob, lw⟩ := x
  dsimp only at hp hj
  subst hp
  obtain ⟨⟨ep, sn, fl, cm, tm, i, hd, e1⟩, e2⟩ := h.fi rfl
  dsimp only at e1
  subst e1
  have b := h.b
  have m := h.m
  have r1 := b.r1
  have r2 := b.r2
  have hw8 : IntKind.i64.wrap 8 = 8 := by decide
  have hR : IntKind.i64.wrap (8 * R) = 8 * R := wi64 (by omega) (by omega)
  have ewj : IntKind.i64.wrap ((j : Int) + 1) = ((j + 1 : Nat) : Int) := by rw [wi64 (by omega) (by omega)]; omega
  refine ⟨⟨R, f, none, 0, 0, false, 8, w00, r00⟩, ?_⟩
  have hX := hXTq ⟨R, f, none, 0, 0, false, 8, w00, r00⟩
  dsimp only [TG1, ssT1, ssH1, s2H1]
  refine sx hX [] 4000 rfl (by (simp [-List.getD_eq_getElem?_getD, -List.length_eq_zero_iff, conjP])) ?_
  refine sx hX [.T] 4000 rfl (by (simp [-List.getD_eq_getElem?_getD, -List.length_eq_zero_iff, conjP, getH, HE.so, hw8, hR, hj])) ?_
  (refine J _ ⟨j + 1, ⟨W, st, kd, wd, vl, ch, stb, kdb, wdb, vlb, chb, f', n, c0, c1, c2, c3, p0, q0, p1, q1, p2, q2, p3, q3, d0, d1, d2, d3⟩, 2, wrO R ep 0 sn fl cm tm .niliface 15 lw.length i hd, lw⟩ ?iv rfl _ _ _ (sub_of [0, 1, 2, 3, 4, 5, 6, 7, 8, 9, 10, 11, 12, 13, 14, 15, 16, 17, 18, 19] rfl rfl rfl (by cases bb <;> rfl) ?tt ?hh (by (repeat' (first | exact rfl | exact trivial | exact sim_refl _ | refine And.intro ?_ ?_))) ?ok); (case tt => simp only [ewj]; (repeat' (first | exact rfl | exact trivial | exact sim_refl _ | refine And.intro ?_ ?_)); done); (case hh => (((repeat' (first | exact rfl | exact trivial | exact sim_refl _ | exact simO_refl _ | exact subE_same rfl ren_scE | exact subE_same rfl ren_wlE | exact subE_same rfl ren_rlE | exact subE_same rfl ren_bwE | exact subE_wrE rfl rfl | exact subE_rdE rfl rfl | exact sim_wrP rfl | exact sim_rdP rfl | exact sim_bsV rfl | assumption | refine And.intro ?_ ?_)); done))); (case ok => (((repeat' (first | exact rfl | exact trivial | exact okE_scE | exact okE_wlE | exact okE_rlE | exact okE_bwE | exact okE_wrE rfl | exact okE_rdE rfl | exact okP_wrP (i := 13) rfl | exact okP_wrP (i := 15) rfl | exact okP_rdP (i := 17) rfl | exact okP_rdP (i := 19) rfl | exact okP_bsV rfl | refine And.intro ?_ ?_)); done))); (case iv => exact ⟨by (try dsimp only); omega, BInv.nx b b.hl b.hw b.o0 b.o1 b.o2 b.o3 (hi := by show i0 + j + 1 ≤ 10000; omega), m, h.oc, h.ph2, fun q => by simp at q, fun q => by simp at q, fun _ => ⟨⟨ep, sn, fl, cm, tm, i, hd, rfl⟩, e2⟩⟩))
set_option maxHeartbeats 4000000 in
theorem ts10 (h : SInv1 R i0 co x) (hi0 : i0 ≤ 101) (hj : (x.j : Int) < 8 * R) {r : WR} (hp : x.ph = 0) (hr : ∀ ep nx sn fl tm ii hd l, x.z.c1 = some ⟨ep, nx, sn, fl, tm, ii, hd, l⟩ → wStep R ⟨ep, nx, sn, fl, tm, ii, hd, l⟩ x.z.W x.z.st = r) (e0 : r.k = 0) (J : ∀ p, TJ1 p bb R N i0 o co f Wb hd0 x ρ w I) : ∃ p, TG1 p bb R N o f Wb hd0 x ρ w I := by
  obtain ⟨j, ⟨W, st, kd, wd, vl, ch, stb, kdb, wdb, vlb, chb, f', n, c0, c1, c2, c3, p0, q0, p1, q1, p2, q2, p3, q3, d0, d1, d2, d3⟩, ph, ob, lw⟩ := x
  dsimp only at hp hj
  subst hp
  obtain ⟨s, hs, hmu⟩ := h.on rfl
  dsimp only at hs hmu
  subst hs
  obtain ⟨ep, nx, sn, fl, tm, ii, hd, l⟩ := s
  have b := h.b
  have m := h.m
  have r1 := b.r1
  have r2 := b.r2
  have hw8 : IntKind.i64.wrap 8 = 8 := by decide
  have hR : IntKind.i64.wrap (8 * R) = 8 * R := wi64 (by omega) (by omega)
  have ewj : IntKind.i64.wrap ((j : Int) + 1) = ((j + 1 : Nat) : Int) := by rw [wi64 (by omega) (by omega)]; omega
  have ok : WOk R ⟨ep, nx, sn, fl, tm, ii, hd, l⟩ := b.o1
  have hl : W.length = 21 := b.hl
  have hl16 : 16 ≤ W.length := by omega
  have w0 : 0 ≤ W.getD 7 0 := (b.hw 7).1
  have w1 : W.getD 7 0 < 18446744073709551616 := (b.hw 7).2
  have s0 : 0 ≤ st := b.s0
  have s1 : st < 1000000 := by have h1 : st ≤ 100 + 2 * ((i0 + j : Nat) : Int) := b.s1; omega
  dsimp only at hr
  have hr := hr ep nx sn fl tm ii hd l rfl
  have aft := wAft (st := st) ok b.hw
  have hh := wHold (st := st) ok hl16
  have hdec := mu_dec (st := st) (W := W) ok
  have hend := wEnd (st := st) (W := W) ok
  have hheld := end_held (st := st) (m.swap) ok b.o0 hl16
  rw [hr] at aft hh hdec hend hheld
  have hLn : r.W.length = 21 := aft.hl.trans hl
  have hWn := aft.hw
  have hoc : c0 = co := h.oc
  obtain ⟨hcm0, okn⟩ := aft.go e0
  have hd1 := hdec e0
  have hp1 := mu_pos (W := r.W) okn
  dsimp only at hd1 hp1
  refine ⟨⟨R, f, none, 0, 0, false, 0, r, r00⟩, ?_⟩
  have hX := hXTq ⟨R, f, none, 0, 0, false, 0, r, r00⟩
  dsimp only [TG1, ssT1, ssH1, s2H1]
  refine sx hX [] 4000 rfl (by (simp [-List.getD_eq_getElem?_getD, -List.length_eq_zero_iff, conjP])) ?_
  refine sx hX [.T] 4000 rfl (by (simp [-List.getD_eq_getElem?_getD, -List.length_eq_zero_iff, conjP, getH, HE.so, hw8, hR, hj, r1, r2, hl, w0, w1, s0, s1, ok, hr, e0])) ?_
  (simp only [hcm0]; refine J _ ⟨j + 1, ⟨r.W, st + 1, r.kd, r.wd, r.vl, r.ch, stb, kdb, wdb, vlb, chb, f', n, c0, some ⟨ep, r.nx, r.sn, r.fl, r.tm, r.i, r.hd, l⟩, c2, c3, p0, q0, p1, q1, p2, q2, p3, q3, d0, d1, d2, d3⟩, 0, ob, lw⟩ ?iv rfl _ _ _ (sub_of [0, 1, 2, 3, 4, 5, 6, 7, 8, 9, 10, 11, 12, 13, 14, 15, 16, 17, 18, 19] rfl rfl rfl (by cases bb <;> rfl) ?tt ?hh (by (repeat' (first | exact rfl | exact trivial | exact sim_refl _ | refine And.intro ?_ ?_))) ?ok); (case tt => simp only [ewj]; (repeat' (first | exact rfl | exact trivial | exact sim_refl _ | refine And.intro ?_ ?_)); done); (case hh => (((repeat' (first | exact rfl | exact trivial | exact sim_refl _ | exact simO_refl _ | exact subE_same rfl ren_scE | exact subE_same rfl ren_wlE | exact subE_same rfl ren_rlE | exact subE_same rfl ren_bwE | exact subE_wrE rfl rfl | exact subE_rdE rfl rfl | exact sim_wrP rfl | exact sim_rdP rfl | exact sim_bsV rfl | assumption | refine And.intro ?_ ?_)); done))); (case ok => (((repeat' (first | exact rfl | exact trivial | exact okE_scE | exact okE_wlE | exact okE_rlE | exact okE_bwE | exact okE_wrE rfl | exact okE_rdE rfl | exact okP_wrP (i := 13) rfl | exact okP_wrP (i := 15) rfl | exact okP_rdP (i := 17) rfl | exact okP_rdP (i := 19) rfl | exact okP_bsV rfl | refine And.intro ?_ ?_)); done))); (case iv => exact ⟨by (try dsimp only); omega, BInv.nx b hLn hWn (b.o0) (okn) (b.o2) (b.o3) (hi := by show i0 + j + 1 ≤ 10000; omega), ((m.swap).on ok b.o0 hh e0).swap, h.oc, by (try dsimp only); omega, fun _ => ⟨_, rfl, by (try dsimp only); omega⟩, fun q => by simp at q, fun q => by simp at q⟩))
set_option maxHeartbeats 4000000 in
theorem ts11 (h : SInv1 R i0 co x) (hi0 : i0 ≤ 101) (hj : (x.j : Int) < 8 * R) {r : WR} (hp : x.ph = 0) (hr : ∀ ep nx sn fl tm ii hd l, x.z.c1 = some ⟨ep, nx, sn, fl, tm, ii, hd, l⟩ → wStep R ⟨ep, nx, sn, fl, tm, ii, hd, l⟩ x.z.W x.z.st = r) (e0 : r.k = 1) (J : ∀ p, TJ1 p bb R N i0 o co f Wb hd0 x ρ w I) : ∃ p, TG1 p bb R N o f Wb hd0 x ρ w I := by
  obtain ⟨j, ⟨W, st, kd, wd, vl, ch, stb, kdb, wdb, vlb, chb, f', n, c0, c1, c2, c3, p0, q0, p1, q1, p2, q2, p3, q3, d0, d1, d2, d3⟩, ph, ob, lw⟩ := x
  dsimp only at hp hj
  subst hp
  obtain ⟨s, hs, hmu⟩ := h.on rfl
  dsimp only at hs hmu
  subst hs
  obtain ⟨ep, nx, sn, fl, tm, ii, hd, l⟩ := s
  have b := h.b
  have m := h.m
  have r1 := b.r1
  have r2 := b.r2
  have hw8 : IntKind.i64.wrap 8 = 8 := by decide
  have hR : IntKind.i64.wrap (8 * R) = 8 * R := wi64 (by omega) (by omega)
  have ewj : IntKind.i64.wrap ((j : Int) + 1) = ((j + 1 : Nat) : Int) := by rw [wi64 (by omega) (by omega)]; omega
  have ok : WOk R ⟨ep, nx, sn, fl, tm, ii, hd, l⟩ := b.o1
  have hl : W.length = 21 := b.hl
  have hl16 : 16 ≤ W.length := by omega
  have w0 : 0 ≤ W.getD 7 0 := (b.hw 7).1
  have w1 : W.getD 7 0 < 18446744073709551616 := (b.hw 7).2
  have s0 : 0 ≤ st := b.s0
  have s1 : st < 1000000 := by have h1 : st ≤ 100 + 2 * ((i0 + j : Nat) : Int) := b.s1; omega
  dsimp only at hr
  have hr := hr ep nx sn fl tm ii hd l rfl
  have aft := wAft (st := st) ok b.hw
  have hh := wHold (st := st) ok hl16
  have hdec := mu_dec (st := st) (W := W) ok
  have hend := wEnd (st := st) (W := W) ok
  have hheld := end_held (st := st) (m.swap) ok b.o0 hl16
  rw [hr] at aft hh hdec hend hheld
  have hLn : r.W.length = 21 := aft.hl.trans hl
  have hWn := aft.hw
  have hoc : c0 = co := h.oc
  have hnx := hend.1 (by omega)
  refine ⟨⟨R, f, none, 0, 0, false, 1, r, r00⟩, ?_⟩
  have hX := hXTq ⟨R, f, none, 0, 0, false, 1, r, r00⟩
  dsimp only [TG1, ssT1, ssH1, s2H1]
  refine sx hX [] 4000 rfl (by (simp [-List.getD_eq_getElem?_getD, -List.length_eq_zero_iff, conjP])) ?_
  refine sx hX [.T] 4000 rfl (by (simp [-List.getD_eq_getElem?_getD, -List.length_eq_zero_iff, conjP, getH, HE.so, hw8, hR, hj, r1, r2, hl, w0, w1, s0, s1, ok, hr, e0])) ?_
  (simp only [hnx]; refine J _ ⟨j + 1, ⟨r.W, st + 1, r.kd, r.wd, r.vl, r.ch, stb, kdb, wdb, vlb, chb, f', n, c0, none, c2, c3, p0, q0, p1, q1, p2, q2, p3, q3, d0, d1, d2, d3⟩, 1, wrO R ep 0 r.sn r.fl r.cm r.tm (erO r.c) 15 l.length r.i r.hd, l⟩ ?iv rfl _ _ _ (sub_of [0, 1, 2, 3, 4, 5, 6, 7, 8, 9, 10, 11, 12, 13, 14, 15, 16, 17, 18, 19] rfl rfl rfl (by cases bb <;> rfl) ?tt ?hh (by (repeat' (first | exact rfl | exact trivial | exact sim_refl _ | refine And.intro ?_ ?_))) ?ok); (case tt => simp only [ewj]; (repeat' (first | exact rfl | exact trivial | exact sim_refl _ | refine And.intro ?_ ?_)); done); (case hh => (((repeat' (first | exact rfl | exact trivial | exact sim_refl _ | exact simO_refl _ | exact subE_same rfl ren_scE | exact subE_same rfl ren_wlE | exact subE_same rfl ren_rlE | exact subE_same rfl ren_bwE | exact subE_wrE rfl rfl | exact subE_rdE rfl rfl | exact sim_wrP rfl | exact sim_rdP rfl | exact sim_bsV rfl | assumption | refine And.intro ?_ ?_)); done))); (case ok => (((repeat' (first | exact rfl | exact trivial | exact okE_scE | exact okE_wlE | exact okE_rlE | exact okE_bwE | exact okE_wrE rfl | exact okE_rdE rfl | exact okP_wrP (i := 13) rfl | exact okP_wrP (i := 15) rfl | exact okP_rdP (i := 17) rfl | exact okP_rdP (i := 19) rfl | exact okP_bsV rfl | refine And.intro ?_ ?_)); done))); (case iv => exact ⟨by (try dsimp only); omega, BInv.nx b hLn hWn (b.o0) (trivial) (b.o2) (b.o3) (hi := by show i0 + j + 1 ≤ 10000; omega), ((m.swap).off hh (.inl e0)).swap, h.oc, by (try dsimp only); omega, fun q => by simp at q, fun _ => ⟨_, _, _, _, _, _, _, _, rfl, fun q => (hheld (by rw [hoc]; exact q)).1 e0⟩, fun q => by simp at q⟩))
set_option maxHeartbeats 4000000 in
theorem ts12 (h : SInv1 R i0 co x) (hi0 : i0 ≤ 101) (hj : (x.j : Int) < 8 * R) {r : WR} (hp : x.ph = 0) (hr : ∀ ep nx sn fl tm ii hd l, x.z.c1 = some ⟨ep, nx, sn, fl, tm, ii, hd, l⟩ → wStep R ⟨ep, nx, sn, fl, tm, ii, hd, l⟩ x.z.W x.z.st = r) (e0 : r.k = 2) (J : ∀ p, TJ1 p bb R N i0 o co f Wb hd0 x ρ w I) : ∃ p, TG1 p bb R N o f Wb hd0 x ρ w I := by
  obtain ⟨j, ⟨W, st, kd, wd, vl, ch, stb, kdb, wdb, vlb, chb, f', n, c0, c1, c2, c3, p0, q0, p1, q1, p2, q2, p3, q3, d0, d1, d2, d3⟩, ph, ob, lw⟩ := x
  dsimp only at hp hj
  subst hp
  obtain ⟨s, hs, hmu⟩ := h.on rfl
  dsimp only at hs hmu
  subst hs
  obtain ⟨ep, nx, sn, fl, tm, ii, hd, l⟩ := s
  have b := h.b
  have m := h.m
  have r1 := b.r1
  have r2 := b.r2
  have hw8 : IntKind.i64.wrap 8 = 8 := by decide
  have hR : IntKind.i64.wrap (8 * R) = 8 * R := wi64 (by omega) (by omega)
  have ewj : IntKind.i64.wrap ((j : Int) + 1) = ((j + 1 : Nat) : Int) := by rw [wi64 (by omega) (by omega)]; omega
  have ok : WOk R ⟨ep, nx, sn, fl, tm, ii, hd, l⟩ := b.o1
  have hl : W.length = 21 := b.hl
  have hl16 : 16 ≤ W.length := by omega
  have w0 : 0 ≤ W.getD 7 0 := (b.hw 7).1
  have w1 : W.getD 7 0 < 18446744073709551616 := (b.hw 7).2
  have s0 : 0 ≤ st := b.s0
  have s1 : st < 1000000 := by have h1 : st ≤ 100 + 2 * ((i0 + j : Nat) : Int) := b.s1; omega
  dsimp only at hr
  have hr := hr ep nx sn fl tm ii hd l rfl
  have aft := wAft (st := st) ok b.hw
  have hh := wHold (st := st) ok hl16
  have hdec := mu_dec (st := st) (W := W) ok
  have hend := wEnd (st := st) (W := W) ok
  have hheld := end_held (st := st) (m.swap) ok b.o0 hl16
  rw [hr] at aft hh hdec hend hheld
  have hLn : r.W.length = 21 := aft.hl.trans hl
  have hWn := aft.hw
  have hoc : c0 = co := h.oc
  have hnx := hend.1 (by omega)
  have hco : hdO co = false := by
    rcases q : hdO co with _ | _
    · rfl
    · exact absurd e0 (hheld (by rw [hoc]; exact q)).2
  refine ⟨⟨R, f, none, 0, 0, false, 2, r, r00⟩, ?_⟩
  have hX := hXTq ⟨R, f, none, 0, 0, false, 2, r, r00⟩
  dsimp only [TG1, ssT1, ssH1, s2H1]
  refine sx hX [] 4000 rfl (by (simp [-List.getD_eq_getElem?_getD, -List.length_eq_zero_iff, conjP])) ?_
  refine sx hX [.T] 4000 rfl (by (simp [-List.getD_eq_getElem?_getD, -List.length_eq_zero_iff, conjP, getH, HE.so, hw8, hR, hj, r1, r2, hl, w0, w1, s0, s1, ok, hr, e0])) ?_
  (simp only [hnx]; refine J _ ⟨j + 1, ⟨r.W, st + 1, r.kd, r.wd, r.vl, r.ch, stb, kdb, wdb, vlb, chb, f', n, c0, none, c2, c3, p0, q0, p1, q1, p2, q2, p3, q3, d0, d1, d2, d3⟩, 2, wrO R ep 0 r.sn r.fl r.cm r.tm .niliface 15 l.length r.i r.hd, l⟩ ?iv rfl _ _ _ (sub_of [0, 1, 2, 3, 4, 5, 6, 7, 8, 9, 10, 11, 12, 13, 14, 15, 16, 17, 18, 19] rfl rfl rfl (by cases bb <;> rfl) ?tt ?hh (by (repeat' (first | exact rfl | exact trivial | exact sim_refl _ | refine And.intro ?_ ?_))) ?ok); (case tt => simp only [ewj]; (repeat' (first | exact rfl | exact trivial | exact sim_refl _ | refine And.intro ?_ ?_)); done); (case hh => (((repeat' (first | exact rfl | exact trivial | exact sim_refl _ | exact simO_refl _ | exact subE_same rfl ren_scE | exact subE_same rfl ren_wlE | exact subE_same rfl ren_rlE | exact subE_same rfl ren_bwE | exact subE_wrE rfl rfl | exact subE_rdE rfl rfl | exact sim_wrP rfl | exact sim_rdP rfl | exact sim_bsV rfl | assumption | refine And.intro ?_ ?_)); done))); (case ok => (((repeat' (first | exact rfl | exact trivial | exact okE_scE | exact okE_wlE | exact okE_rlE | exact okE_bwE | exact okE_wrE rfl | exact okE_rdE rfl | exact okP_wrP (i := 13) rfl | exact okP_wrP (i := 15) rfl | exact okP_rdP (i := 17) rfl | exact okP_rdP (i := 19) rfl | exact okP_bsV rfl | refine And.intro ?_ ?_)); done))); (case iv => exact ⟨by (try dsimp only); omega, BInv.nx b hLn hWn (b.o0) (trivial) (b.o2) (b.o3) (hi := by show i0 + j + 1 ≤ 10000; omega), ((m.swap).off hh (.inr e0)).swap, h.oc, by (try dsimp only); omega, fun q => by simp at q, fun q => by simp at q, fun _ => ⟨⟨_, _, _, _, _, _, _, rfl⟩, hco⟩⟩))
end
end Go.Proofs.YtmghcelohnlceaaGreatDoor

