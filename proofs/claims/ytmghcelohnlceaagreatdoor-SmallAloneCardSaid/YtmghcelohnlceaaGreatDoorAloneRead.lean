/- SmallAlone: client 2 goes on alone, step by step. -/
import Derived.Test.YtmghcelohnlceaaGreatDoorAloneOn
import Derived.Test.YtmghcelohnlceaaGreatDoorAloneHold
namespace Go.Proofs.YtmghcelohnlceaaGreatDoor
open Go Go.Hx
set_option maxRecDepth 8000
structure SS2 where
  (j : Nat) (z : Wd) (ph : Nat) (ob : SO) (lw : List Int)
def s2H2 (e : HE) (R : Int) (f : Bool) (Wb : List Int) (z : Wd) (cell : SV) (e1 e2 : HE) : List HE :=
  [e, pinE RTV, .obj (xO R 3 5 7 z.n), AOx 4 z.W z.st z.kd z.wd z.vl z.ch, WO z.W, .obj (rbO (bsV f 6) z.stb z.kdb z.wdb z.vlb z.chb), bwE f Wb, .obj (kO 8 9 10 11), .obj (cqO (wrP z.c0 12) .nilptr z.p0 z.q0 z.d0), .obj (cqO (wrP z.c1 14) .nilptr z.p1 z.q1 z.d1), .obj (cqO .nilptr cell z.p2 z.q2 z.d2), .obj (cqO .nilptr (rdP z.c3 18) z.p3 z.q3 z.d3), wrE R z.c0 13, wlE z.c0, wrE R z.c1 15, wlE z.c1, e1, e2, rdE R z.c3 19, rlE z.c3]
def ssT2 (hd : Bool) (x : SS2) : List (Nat × SV) := [(7, .tt), (8, .ptr 2 0), (12, .ptr 10 0), (13, .bool hd), (14, .int .i64 (x.j : Int))]
def ssH2 (bb : Bool) (N : Nat) (o : Nat → Int × Int) (R : Int) (f : Bool) (Wb : List Int) (x : SS2) : List HE := match x.ph with
  | 0 => s2H2 (scE bb N o) R f Wb x.z (rdP x.z.c2 16) (rdE R x.z.c2 17) (rlE x.z.c2)
  | 1 => s2H2 (scE bb N o) R f Wb x.z (.ptr 16 0) (.obj x.ob) .absent
  | _ => s2H2 (scE bb N o) R f Wb x.z (.ptr 16 0) (.obj x.ob) (wdE x.lw)
/-- What is so all along. -/
structure SInv2 (R : Int) (i0 : Nat) (x : SS2) : Prop where
  jb : (x.j : Int) ≤ 8 * R
  b : BInv R (i0 + x.j) x.z
  ph2 : x.ph ≤ 3
  on : x.ph = 0 → ∃ s, x.z.c2 = some s ∧ muR R s x.z.W + (x.j : Int) ≤ 8 * R
  e1 : x.ph = 1 → ∃ ep sn fl cm tm c, x.ob = rdO R ep 0 sn fl cm tm (erO c) .nilslice
  e2 : x.ph = 2 → ∃ ep sn fl cm tm, x.ob = rdO R ep 0 sn fl cm tm .niliface (.sbuf 17 1 0 x.lw.length)
  e3 : x.ph = 3 → ∃ ep sn fl cm tm c, x.ob = rdO R ep 0 sn fl cm tm (erO c) (.sbuf 17 1 0 x.lw.length)
section
variable {bb : Bool} {R : Int} {N i0 : Nat} {o : Nat → Int × Int} {f : Bool} {Wb : List Int} {hd0 : Bool} {x : SS2} {ρ : Nat → Nat × Nat} {w : World} {I : Act → World → Prop}
abbrev TJ2 (p : TQ) (bb : Bool) (R : Int) (N i0 : Nat) (o : Nat → Int × Int) (f : Bool) (Wb : List Int) (hd0 : Bool) (x : SS2) (ρ : Nat → Nat × Nat) (w : World) (I : Act → World → Prop) : Prop :=
  ∀ x', SInv2 R i0 x' → x'.j = x.j + 1 → ∀ cs T H, Sub (FEnv Tryz.prog (XTq p).TE (hXTq p).te Tryz.f3 Tryz.f3.ntmps [scE bb N o, pinE RTV] (Is .tt [scE bb N o, pinE RTV]) ρ w) T H (ssT2 hd0 x') (ssH2 bb N o R f Wb x') →
    SS (hXTq p) (At ρ w) (Is .tt [scE bb N o, pinE RTV]) ⟨cs, [], Tryz.f3, Tryz.f3.ntmps, [scE bb N o, pinE RTV], downLp (contF Tryz.f3 21 [I]), T, H⟩
abbrev TG2 (p : TQ) (bb : Bool) (R : Int) (N : Nat) (o : Nat → Int × Int) (f : Bool) (Wb : List Int) (hd0 : Bool) (x : SS2) (ρ : Nat → Nat × Nat) (w : World) (I : Act → World → Prop) : Prop :=
  SS (hXTq p) (At ρ w) (Is .tt [scE bb N o, pinE RTV]) ⟨[], [], Tryz.f3, Tryz.f3.ntmps, [scE bb N o, pinE RTV], contF Tryz.f3 21 [I], ssT2 hd0 x, ssH2 bb N o R f Wb x⟩

set_option maxHeartbeats 4000000 in
theorem td21 (h : SInv2 R i0 x) (hi0 : i0 ≤ 101) (hj : (x.j : Int) < 8 * R) (hp : x.ph = 1) (J : ∀ p, TJ2 p bb R N i0 o f Wb hd0 x ρ w I) : ∃ p, TG2 p bb R N o f Wb hd0 x ρ w I := by
  obtain ⟨j, ⟨W, st, kd, wd, vl, ch, stb, kdb, wdb, vlb, chb, f', n, c0, c1, c2, c3, p0, q0, p1, q1, p2, q2, p3, q3, d0, d1, d2, d3⟩, ph, ob, lw⟩ := x
  dsimp only at hp hj
  subst hp
  obtain ⟨ep, sn, fl, cm, tm, c, e1⟩ := h.e1 rfl
  dsimp only at e1
  subst e1
  have b := h.b
  have r1 := b.r1
  have r2 := b.r2
  have hw8 : IntKind.i64.wrap 8 = 8 := by decide
  have hR : IntKind.i64.wrap (8 * R) = 8 * R := wi64 (by omega) (by omega)
  have ewj : IntKind.i64.wrap ((j : Int) + 1) = ((j + 1 : Nat) : Int) := by rw [wi64 (by omega) (by omega)]; omega
  refine ⟨⟨R, f, none, 0, 0, false, 10, w00, r00⟩, ?_⟩
  have hX := hXTq ⟨R, f, none, 0, 0, false, 10, w00, r00⟩
  dsimp only [TG2, ssT2, ssH2, s2H2]
  refine sx hX [] 4000 rfl (by (simp [-List.getD_eq_getElem?_getD, -List.length_eq_zero_iff, conjP])) ?_
  refine sx hX [.T] 4000 rfl (by (simp [-List.getD_eq_getElem?_getD, -List.length_eq_zero_iff, conjP, getH, HE.so, hw8, hR, hj])) ?_
  (refine J _ ⟨j + 1, ⟨W, st, kd, wd, vl, ch, stb, kdb, wdb, vlb, chb, f', n, c0, c1, c2, c3, p0, q0, p1, q1, p2, q2, p3, q3, d0, d1, d2, d3⟩, 1, rdO R ep 0 sn fl cm tm (erO c) .nilslice, lw⟩ ?iv rfl _ _ _ (sub_of [0, 1, 2, 3, 4, 5, 6, 7, 8, 9, 10, 11, 12, 13, 14, 15, 16, 61, 18, 19] rfl rfl rfl (by cases bb <;> rfl) ?tt ?hh (by (repeat' (first | exact rfl | exact trivial | exact sim_refl _ | refine And.intro ?_ ?_))) ?ok); (case tt => simp only [ewj]; (repeat' (first | exact rfl | exact trivial | exact sim_refl _ | refine And.intro ?_ ?_)); done); (case hh => (((repeat' (first | exact rfl | exact trivial | exact sim_refl _ | exact simO_refl _ | exact subE_same rfl ren_scE | exact subE_same rfl ren_wlE | exact subE_same rfl ren_rlE | exact subE_same rfl ren_bwE | exact subE_wrE rfl rfl | exact subE_rdE rfl rfl | exact sim_wrP rfl | exact sim_rdP rfl | exact sim_bsV rfl | assumption | refine And.intro ?_ ?_)); done))); (case ok => (((repeat' (first | exact rfl | exact trivial | exact okE_scE | exact okE_wlE | exact okE_rlE | exact okE_bwE | exact okE_wrE rfl | exact okE_rdE rfl | exact okP_wrP (i := 13) rfl | exact okP_wrP (i := 15) rfl | exact okP_rdP (i := 17) rfl | exact okP_rdP (i := 19) rfl | exact okP_bsV rfl | refine And.intro ?_ ?_)); done))); (case iv => exact ⟨by (try dsimp only); omega, BInv.nx b b.hl b.hw b.o0 b.o1 b.o2 b.o3 (hi := by show i0 + j + 1 ≤ 10000; omega), h.ph2, fun q => by simp at q, fun _ => ⟨ep, sn, fl, cm, tm, c, rfl⟩, fun q => by simp at q, fun q => by simp at q⟩))
set_option maxHeartbeats 4000000 in
theorem td22 (h : SInv2 R i0 x) (hi0 : i0 ≤ 101) (hj : (x.j : Int) < 8 * R) (hp : x.ph = 2) (J : ∀ p, TJ2 p bb R N i0 o f Wb hd0 x ρ w I) : ∃ p, TG2 p bb R N o f Wb hd0 x ρ w I := by
  obtain ⟨j, ⟨W, st, kd, wd, vl, ch, stb, kdb, wdb, vlb, chb, f', n, c0, c1, c2, c3, p0, q0, p1, q1, p2, q2, p3, q3, d0, d1, d2, d3⟩, ph, ob, lw⟩ := x
  dsimp only at hp hj
  subst hp
  obtain ⟨ep, sn, fl, cm, tm, e1⟩ := h.e2 rfl
  dsimp only at e1
  subst e1
  have b := h.b
  have r1 := b.r1
  have r2 := b.r2
  have hw8 : IntKind.i64.wrap 8 = 8 := by decide
  have hR : IntKind.i64.wrap (8 * R) = 8 * R := wi64 (by omega) (by omega)
  have ewj : IntKind.i64.wrap ((j : Int) + 1) = ((j + 1 : Nat) : Int) := by rw [wi64 (by omega) (by omega)]; omega
  refine ⟨⟨R, f, none, 0, 0, false, 8, w00, r00⟩, ?_⟩
  have hX := hXTq ⟨R, f, none, 0, 0, false, 8, w00, r00⟩
  dsimp only [TG2, ssT2, ssH2, s2H2]
  refine sx hX [] 4000 rfl (by (simp [-List.getD_eq_getElem?_getD, -List.length_eq_zero_iff, conjP])) ?_
  refine sx hX [.T] 4000 rfl (by (simp [-List.getD_eq_getElem?_getD, -List.length_eq_zero_iff, conjP, getH, HE.so, hw8, hR, hj])) ?_
  (refine J _ ⟨j + 1, ⟨W, st, kd, wd, vl, ch, stb, kdb, wdb, vlb, chb, f', n, c0, c1, c2, c3, p0, q0, p1, q1, p2, q2, p3, q3, d0, d1, d2, d3⟩, 2, rdO R ep 0 sn fl cm tm .niliface (.sbuf 17 1 0 lw.length), lw⟩ ?iv rfl _ _ _ (sub_of [0, 1, 2, 3, 4, 5, 6, 7, 8, 9, 10, 11, 12, 13, 14, 15, 16, 17, 18, 19] rfl rfl rfl (by cases bb <;> rfl) ?tt ?hh (by (repeat' (first | exact rfl | exact trivial | exact sim_refl _ | refine And.intro ?_ ?_))) ?ok); (case tt => simp only [ewj]; (repeat' (first | exact rfl | exact trivial | exact sim_refl _ | refine And.intro ?_ ?_)); done); (case hh => (((repeat' (first | exact rfl | exact trivial | exact sim_refl _ | exact simO_refl _ | exact subE_same rfl ren_scE | exact subE_same rfl ren_wlE | exact subE_same rfl ren_rlE | exact subE_same rfl ren_bwE | exact subE_wrE rfl rfl | exact subE_rdE rfl rfl | exact sim_wrP rfl | exact sim_rdP rfl | exact sim_bsV rfl | assumption | refine And.intro ?_ ?_)); done))); (case ok => (((repeat' (first | exact rfl | exact trivial | exact okE_scE | exact okE_wlE | exact okE_rlE | exact okE_bwE | exact okE_wrE rfl | exact okE_rdE rfl | exact okP_wrP (i := 13) rfl | exact okP_wrP (i := 15) rfl | exact okP_rdP (i := 17) rfl | exact okP_rdP (i := 19) rfl | exact okP_bsV rfl | refine And.intro ?_ ?_)); done))); (case iv => exact ⟨by (try dsimp only); omega, BInv.nx b b.hl b.hw b.o0 b.o1 b.o2 b.o3 (hi := by show i0 + j + 1 ≤ 10000; omega), h.ph2, fun q => by simp at q, fun q => by simp at q, fun _ => ⟨ep, sn, fl, cm, tm, rfl⟩, fun q => by simp at q⟩))
set_option maxHeartbeats 4000000 in
theorem td23 (h : SInv2 R i0 x) (hi0 : i0 ≤ 101) (hj : (x.j : Int) < 8 * R) (hp : x.ph = 3) (J : ∀ p, TJ2 p bb R N i0 o f Wb hd0 x ρ w I) : ∃ p, TG2 p bb R N o f Wb hd0 x ρ w I := by
  obtain ⟨j, ⟨W, st, kd, wd, vl, ch, stb, kdb, wdb, vlb, chb, f', n, c0, c1, c2, c3, p0, q0, p1, q1, p2, q2, p3, q3, d0, d1, d2, d3⟩, ph, ob, lw⟩ := x
  dsimp only at hp hj
  subst hp
  obtain ⟨ep, sn, fl, cm, tm, c, e1⟩ := h.e3 rfl
  dsimp only at e1
  subst e1
  have b := h.b
  have r1 := b.r1
  have r2 := b.r2
  have hw8 : IntKind.i64.wrap 8 = 8 := by decide
  have hR : IntKind.i64.wrap (8 * R) = 8 * R := wi64 (by omega) (by omega)
  have ewj : IntKind.i64.wrap ((j : Int) + 1) = ((j + 1 : Nat) : Int) := by rw [wi64 (by omega) (by omega)]; omega
  refine ⟨⟨R, f, none, 0, 0, false, 9, w00, r00⟩, ?_⟩
  have hX := hXTq ⟨R, f, none, 0, 0, false, 9, w00, r00⟩
  dsimp only [TG2, ssT2, ssH2, s2H2]
  refine sx hX [] 4000 rfl (by (simp [-List.getD_eq_getElem?_getD, -List.length_eq_zero_iff, conjP])) ?_
  refine sx hX [.T] 4000 rfl (by (simp [-List.getD_eq_getElem?_getD, -List.length_eq_zero_iff, conjP, getH, HE.so, hw8, hR, hj])) ?_
  (refine J _ ⟨j + 1, ⟨W, st, kd, wd, vl, ch, stb, kdb, wdb, vlb, chb, f', n, c0, c1, c2, c3, p0, q0, p1, q1, p2, q2, p3, q3, d0, d1, d2, d3⟩, 3, rdO R ep 0 sn fl cm tm (erO c) (.sbuf 17 1 0 lw.length), lw⟩ ?iv rfl _ _ _ (sub_of [0, 1, 2, 3, 4, 5, 6, 7, 8, 9, 10, 11, 12, 13, 14, 15, 16, 17, 18, 19] rfl rfl rfl (by cases bb <;> rfl) ?tt ?hh (by (repeat' (first | exact rfl | exact trivial | exact sim_refl _ | refine And.intro ?_ ?_))) ?ok); (case tt => simp only [ewj]; (repeat' (first | exact rfl | exact trivial | exact sim_refl _ | refine And.intro ?_ ?_)); done); (case hh => (((repeat' (first | exact rfl | exact trivial | exact sim_refl _ | exact simO_refl _ | exact subE_same rfl ren_scE | exact subE_same rfl ren_wlE | exact subE_same rfl ren_rlE | exact subE_same rfl ren_bwE | exact subE_wrE rfl rfl | exact subE_rdE rfl rfl | exact sim_wrP rfl | exact sim_rdP rfl | exact sim_bsV rfl | assumption | refine And.intro ?_ ?_)); done))); (case ok => (((repeat' (first | exact rfl | exact trivial | exact okE_scE | exact okE_wlE | exact okE_rlE | exact okE_bwE | exact okE_wrE rfl | exact okE_rdE rfl | exact okP_wrP (i := 13) rfl | exact okP_wrP (i := 15) rfl | exact okP_rdP (i := 17) rfl | exact okP_rdP (i := 19) rfl | exact okP_bsV rfl | refine And.intro ?_ ?_)); done))); (case iv => exact ⟨by (try dsimp only); omega, BInv.nx b b.hl b.hw b.o0 b.o1 b.o2 b.o3 (hi := by show i0 + j + 1 ≤ 10000; omega), h.ph2, fun q => by simp at q, fun q => by simp at q, fun q => by simp at q, fun _ => ⟨ep, sn, fl, cm, tm, c, rfl⟩⟩))
set_option maxHeartbeats 4000000 in
theorem tn20 (h : SInv2 R i0 x) (hi0 : i0 ≤ 101) (hj : (x.j : Int) < 8 * R) {r : RR} {ep nx sn fl tm : Int} (hp : x.ph = 0) (hc : x.z.c2 = some ⟨ep, nx, sn, fl, tm, none⟩) (hmu : muR R ⟨ep, nx, sn, fl, tm, none⟩ x.z.W + (x.j : Int) ≤ 8 * R) (hr : rStep R ⟨ep, nx, sn, fl, tm, none⟩ x.z.W x.z.st = r) (e0 : r.k = 0) (J : ∀ p, TJ2 p bb R N i0 o f Wb hd0 x ρ w I) : ∃ p, TG2 p bb R N o f Wb hd0 x ρ w I := by
  obtain ⟨j, ⟨W, st, kd, wd, vl, ch, stb, kdb, wdb, vlb, chb, f', n, c0, c1, c2, c3, p0, q0, p1, q1, p2, q2, p3, q3, d0, d1, d2, d3⟩, ph, ob, lw⟩ := x
  dsimp only at hp hj hc hmu hr
  subst hp
  subst hc
  have b := h.b
  have r1 := b.r1
  have r2 := b.r2
  have hw8 : IntKind.i64.wrap 8 = 8 := by decide
  have hR : IntKind.i64.wrap (8 * R) = 8 * R := wi64 (by omega) (by omega)
  have ewj : IntKind.i64.wrap ((j : Int) + 1) = ((j + 1 : Nat) : Int) := by rw [wi64 (by omega) (by omega)]; omega
  have ok : ROk R ⟨ep, nx, sn, fl, tm, none⟩ := b.o2
  have hl : W.length = 21 := b.hl
  have hl16 : 16 ≤ W.length := by omega
  have w0 : 0 ≤ W.getD 7 0 := (b.hw 7).1
  have w1 : W.getD 7 0 < 18446744073709551616 := (b.hw 7).2
  have s0 : 0 ≤ st := b.s0
  have s1 : st < 1000000 := by have h1 : st ≤ 100 + 2 * ((i0 + j : Nat) : Int) := b.s1; omega
  have aft := rAft (st := st) ok w0 w1
  have hdec := mr_dec (st := st) (W := W) ok w0 w1
  have hend := rEnd (st := st) (W := W) ok
  rw [hr] at aft hdec hend
  have hd1 := hdec (.inl e0)
  have okn := aft.go (.inl e0)
  obtain ⟨e4, e3, e2, e1, _⟩ := aft.lk e0
  rw [e3] at okn hd1
  have hp1 : 1 ≤ muR R ⟨ep, r.nx, r.sn, r.fl, r.tm, none⟩ W := mr_pos (W := W) okn
  have hd1 : muR R ⟨ep, r.nx, r.sn, r.fl, r.tm, none⟩ W + 1 ≤ muR R ⟨ep, nx, sn, fl, tm, none⟩ W := hd1
  refine ⟨⟨R, f, none, 0, 0, false, 0, w00, r⟩, ?_⟩
  have hX := hXTq ⟨R, f, none, 0, 0, false, 0, w00, r⟩
  dsimp only [TG2, ssT2, ssH2, s2H2]
  refine sx hX [] 4000 rfl (by (simp [-List.getD_eq_getElem?_getD, -List.length_eq_zero_iff, conjP])) ?_
  refine sx hX [.T] 4000 rfl (by (simp [-List.getD_eq_getElem?_getD, -List.length_eq_zero_iff, conjP, getH, HE.so, hw8, hR, hj, r1, r2, hl, w0, w1, s0, s1, ok, hr, e0, slV])) ?_
  (refine J _ ⟨j + 1, ⟨W, st + 1, 1, r.wd, r.vl, false, stb, kdb, wdb, vlb, chb, f', n, c0, c1, some ⟨ep, r.nx, r.sn, r.fl, r.tm, none⟩, c3, p0, q0, p1, q1, p2, q2, p3, q3, d0, d1, d2, d3⟩, 0, ob, lw⟩ ?iv rfl _ _ _ (sub_of [0, 1, 2, 3, 4, 5, 6, 7, 8, 9, 10, 11, 12, 13, 14, 15, 16, 61, 18, 19] rfl rfl rfl (by cases bb <;> rfl) ?tt ?hh (by (repeat' (first | exact rfl | exact trivial | exact sim_refl _ | refine And.intro ?_ ?_))) ?ok); (case tt => simp only [ewj]; (repeat' (first | exact rfl | exact trivial | exact sim_refl _ | refine And.intro ?_ ?_)); done); (case hh => (((repeat' (first | exact rfl | exact trivial | exact sim_refl _ | exact simO_refl _ | exact subE_same rfl ren_scE | exact subE_same rfl ren_wlE | exact subE_same rfl ren_rlE | exact subE_same rfl ren_bwE | exact subE_wrE rfl rfl | exact subE_rdE rfl rfl | exact sim_wrP rfl | exact sim_rdP rfl | exact sim_bsV rfl | assumption | refine And.intro ?_ ?_)); done))); (case ok => (((repeat' (first | exact rfl | exact trivial | exact okE_scE | exact okE_wlE | exact okE_rlE | exact okE_bwE | exact okE_wrE rfl | exact okE_rdE rfl | exact okP_wrP (i := 13) rfl | exact okP_wrP (i := 15) rfl | exact okP_rdP (i := 17) rfl | exact okP_rdP (i := 19) rfl | exact okP_bsV rfl | refine And.intro ?_ ?_)); done))); (case iv => exact ⟨by (try dsimp only); omega, BInv.nx b hl b.hw (b.o0) (b.o1) (okn) (b.o3) (hi := by show i0 + j + 1 ≤ 10000; omega), by (try dsimp only); omega, fun _ => ⟨_, rfl, by (try dsimp only); omega⟩, fun q => by simp at q, fun q => by simp at q, fun q => by simp at q⟩))
set_option maxHeartbeats 4000000 in
theorem tn21 (h : SInv2 R i0 x) (hi0 : i0 ≤ 101) (hj : (x.j : Int) < 8 * R) {r : RR} {ep nx sn fl tm : Int} (hp : x.ph = 0) (hc : x.z.c2 = some ⟨ep, nx, sn, fl, tm, none⟩) (hmu : muR R ⟨ep, nx, sn, fl, tm, none⟩ x.z.W + (x.j : Int) ≤ 8 * R) (hr : rStep R ⟨ep, nx, sn, fl, tm, none⟩ x.z.W x.z.st = r) (e0 : r.k = 1) (J : ∀ p, TJ2 p bb R N i0 o f Wb hd0 x ρ w I) : ∃ p, TG2 p bb R N o f Wb hd0 x ρ w I := by
  obtain ⟨j, ⟨W, st, kd, wd, vl, ch, stb, kdb, wdb, vlb, chb, f', n, c0, c1, c2, c3, p0, q0, p1, q1, p2, q2, p3, q3, d0, d1, d2, d3⟩, ph, ob, lw⟩ := x
  dsimp only at hp hj hc hmu hr
  subst hp
  subst hc
  have b := h.b
  have r1 := b.r1
  have r2 := b.r2
  have hw8 : IntKind.i64.wrap 8 = 8 := by decide
  have hR : IntKind.i64.wrap (8 * R) = 8 * R := wi64 (by omega) (by omega)
  have ewj : IntKind.i64.wrap ((j : Int) + 1) = ((j + 1 : Nat) : Int) := by rw [wi64 (by omega) (by omega)]; omega
  have ok : ROk R ⟨ep, nx, sn, fl, tm, none⟩ := b.o2
  have hl : W.length = 21 := b.hl
  have hl16 : 16 ≤ W.length := by omega
  have w0 : 0 ≤ W.getD 7 0 := (b.hw 7).1
  have w1 : W.getD 7 0 < 18446744073709551616 := (b.hw 7).2
  have s0 : 0 ≤ st := b.s0
  have s1 : st < 1000000 := by have h1 : st ≤ 100 + 2 * ((i0 + j : Nat) : Int) := b.s1; omega
  have aft := rAft (st := st) ok w0 w1
  have hdec := mr_dec (st := st) (W := W) ok w0 w1
  have hend := rEnd (st := st) (W := W) ok
  rw [hr] at aft hdec hend
  have hnx := hend (.inl e0)
  refine ⟨⟨R, f, none, 0, 0, false, 1, w00, r⟩, ?_⟩
  have hX := hXTq ⟨R, f, none, 0, 0, false, 1, w00, r⟩
  dsimp only [TG2, ssT2, ssH2, s2H2]
  refine sx hX [] 4000 rfl (by (simp [-List.getD_eq_getElem?_getD, -List.length_eq_zero_iff, conjP])) ?_
  refine sx hX [.T] 4000 rfl (by (simp [-List.getD_eq_getElem?_getD, -List.length_eq_zero_iff, conjP, getH, HE.so, hw8, hR, hj, r1, r2, hl, w0, w1, s0, s1, ok, hr, e0, slV])) ?_
  (simp only [hnx]; refine J _ ⟨j + 1, ⟨W, st + 1, 1, r.wd, r.vl, false, stb, kdb, wdb, vlb, chb, f', n, c0, c1, none, c3, p0, q0, p1, q1, p2, q2, p3, q3, d0, d1, d2, d3⟩, 1, rdO R ep 0 r.sn r.fl 0 r.tm (erO r.c) .nilslice, lw⟩ ?iv rfl _ _ _ (sub_of [0, 1, 2, 3, 4, 5, 6, 7, 8, 9, 10, 11, 12, 13, 14, 15, 16, 61, 18, 19] rfl rfl rfl (by cases bb <;> rfl) ?tt ?hh (by (repeat' (first | exact rfl | exact trivial | exact sim_refl _ | refine And.intro ?_ ?_))) ?ok); (case tt => simp only [ewj]; (repeat' (first | exact rfl | exact trivial | exact sim_refl _ | refine And.intro ?_ ?_)); done); (case hh => (((repeat' (first | exact rfl | exact trivial | exact sim_refl _ | exact simO_refl _ | exact subE_same rfl ren_scE | exact subE_same rfl ren_wlE | exact subE_same rfl ren_rlE | exact subE_same rfl ren_bwE | exact subE_wrE rfl rfl | exact subE_rdE rfl rfl | exact sim_wrP rfl | exact sim_rdP rfl | exact sim_bsV rfl | assumption | refine And.intro ?_ ?_)); done))); (case ok => (((repeat' (first | exact rfl | exact trivial | exact okE_scE | exact okE_wlE | exact okE_rlE | exact okE_bwE | exact okE_wrE rfl | exact okE_rdE rfl | exact okP_wrP (i := 13) rfl | exact okP_wrP (i := 15) rfl | exact okP_rdP (i := 17) rfl | exact okP_rdP (i := 19) rfl | exact okP_bsV rfl | refine And.intro ?_ ?_)); done))); (case iv => exact ⟨by (try dsimp only); omega, BInv.nx b hl b.hw (b.o0) (b.o1) (trivial) (b.o3) (hi := by show i0 + j + 1 ≤ 10000; omega), by (try dsimp only); omega, fun q => by simp at q, fun _ => ⟨_, _, _, _, _, _, rfl⟩, fun q => by simp at q, fun q => by simp at q⟩))
set_option maxHeartbeats 4000000 in
theorem tn23 (h : SInv2 R i0 x) (hi0 : i0 ≤ 101) (hj : (x.j : Int) < 8 * R) {r : RR} {ep nx sn fl tm : Int} (hp : x.ph = 0) (hc : x.z.c2 = some ⟨ep, nx, sn, fl, tm, none⟩) (hmu : muR R ⟨ep, nx, sn, fl, tm, none⟩ x.z.W + (x.j : Int) ≤ 8 * R) (hr : rStep R ⟨ep, nx, sn, fl, tm, none⟩ x.z.W x.z.st = r) (e0 : r.k = 3) (J : ∀ p, TJ2 p bb R N i0 o f Wb hd0 x ρ w I) : ∃ p, TG2 p bb R N o f Wb hd0 x ρ w I := by
  obtain ⟨j, ⟨W, st, kd, wd, vl, ch, stb, kdb, wdb, vlb, chb, f', n, c0, c1, c2, c3, p0, q0, p1, q1, p2, q2, p3, q3, d0, d1, d2, d3⟩, ph, ob, lw⟩ := x
  dsimp only at hp hj hc hmu hr
  subst hp
  subst hc
  have b := h.b
  have r1 := b.r1
  have r2 := b.r2
  have hw8 : IntKind.i64.wrap 8 = 8 := by decide
  have hR : IntKind.i64.wrap (8 * R) = 8 * R := wi64 (by omega) (by omega)
  have ewj : IntKind.i64.wrap ((j : Int) + 1) = ((j + 1 : Nat) : Int) := by rw [wi64 (by omega) (by omega)]; omega
  have ok : ROk R ⟨ep, nx, sn, fl, tm, none⟩ := b.o2
  have hl : W.length = 21 := b.hl
  have hl16 : 16 ≤ W.length := by omega
  have w0 : 0 ≤ W.getD 7 0 := (b.hw 7).1
  have w1 : W.getD 7 0 < 18446744073709551616 := (b.hw 7).2
  have s0 : 0 ≤ st := b.s0
  have s1 : st < 1000000 := by have h1 : st ≤ 100 + 2 * ((i0 + j : Nat) : Int) := b.s1; omega
  have aft := rAft (st := st) ok w0 w1
  have hdec := mr_dec (st := st) (W := W) ok w0 w1
  have hend := rEnd (st := st) (W := W) ok
  rw [hr] at aft hdec hend
  have hd1 := hdec (.inr (.inl e0))
  have okn := aft.go (.inr (.inl e0))
  obtain ⟨e4, e2, e1, _, _, e3, _⟩ := aft.wd e0
  rw [e3] at okn hd1
  have hp1 : 1 ≤ muR R ⟨ep, r.nx, r.sn, r.fl, r.tm, (some [r.vl])⟩ W := mr_pos (W := W) okn
  have hd1 : muR R ⟨ep, r.nx, r.sn, r.fl, r.tm, (some [r.vl])⟩ W + 1 ≤ muR R ⟨ep, nx, sn, fl, tm, none⟩ W := hd1
  refine ⟨⟨R, f, none, 0, 0, false, 3, w00, r⟩, ?_⟩
  have hX := hXTq ⟨R, f, none, 0, 0, false, 3, w00, r⟩
  dsimp only [TG2, ssT2, ssH2, s2H2]
  refine sx hX [] 4000 rfl (by (simp [-List.getD_eq_getElem?_getD, -List.length_eq_zero_iff, conjP])) ?_
  refine sx hX [.T] 4000 rfl (by (simp [-List.getD_eq_getElem?_getD, -List.length_eq_zero_iff, conjP, getH, HE.so, hw8, hR, hj, r1, r2, hl, w0, w1, s0, s1, ok, hr, e0, slV])) ?_
  (refine J _ ⟨j + 1, ⟨W, st + 1, 1, r.wd, r.vl, false, stb, kdb, wdb, vlb, chb, f', n, c0, c1, some ⟨ep, r.nx, r.sn, r.fl, r.tm, (some [r.vl])⟩, c3, p0, q0, p1, q1, p2, q2, p3, q3, d0, d1, d2, d3⟩, 0, ob, lw⟩ ?iv rfl _ _ _ (sub_of [0, 1, 2, 3, 4, 5, 6, 7, 8, 9, 10, 11, 12, 13, 14, 15, 16, 20, 18, 19] rfl rfl rfl (by cases bb <;> rfl) ?tt ?hh (by (repeat' (first | exact rfl | exact trivial | exact sim_refl _ | refine And.intro ?_ ?_))) ?ok); (case tt => simp only [ewj]; (repeat' (first | exact rfl | exact trivial | exact sim_refl _ | refine And.intro ?_ ?_)); done); (case hh => (((repeat' (first | exact rfl | exact trivial | exact sim_refl _ | exact simO_refl _ | exact subE_same rfl ren_scE | exact subE_same rfl ren_wlE | exact subE_same rfl ren_rlE | exact subE_same rfl ren_bwE | exact subE_wrE rfl rfl | exact subE_rdE rfl rfl | exact sim_wrP rfl | exact sim_rdP rfl | exact sim_bsV rfl | assumption | refine And.intro ?_ ?_)); done))); (case ok => (((repeat' (first | exact rfl | exact trivial | exact okE_scE | exact okE_wlE | exact okE_rlE | exact okE_bwE | exact okE_wrE rfl | exact okE_rdE rfl | exact okP_wrP (i := 13) rfl | exact okP_wrP (i := 15) rfl | exact okP_rdP (i := 17) rfl | exact okP_rdP (i := 19) rfl | exact okP_bsV rfl | refine And.intro ?_ ?_)); done))); (case iv => exact ⟨by (try dsimp only); omega, BInv.nx b hl b.hw (b.o0) (b.o1) (okn) (b.o3) (hi := by show i0 + j + 1 ≤ 10000; omega), by (try dsimp only); omega, fun _ => ⟨_, rfl, by (try dsimp only); omega⟩, fun q => by simp at q, fun q => by simp at q, fun q => by simp at q⟩))
set_option maxHeartbeats 4000000 in
theorem ts20 (h : SInv2 R i0 x) (hi0 : i0 ≤ 101) (hj : (x.j : Int) < 8 * R) {r : RR} {ep nx sn fl tm : Int} {l : List Int} (hp : x.ph = 0) (hc : x.z.c2 = some ⟨ep, nx, sn, fl, tm, some l⟩) (hmu : muR R ⟨ep, nx, sn, fl, tm, some l⟩ x.z.W + (x.j : Int) ≤ 8 * R) (hr : rStep R ⟨ep, nx, sn, fl, tm, some l⟩ x.z.W x.z.st = r) (e0 : r.k = 0) (J : ∀ p, TJ2 p bb R N i0 o f Wb hd0 x ρ w I) : ∃ p, TG2 p bb R N o f Wb hd0 x ρ w I := by
  obtain ⟨j, ⟨W, st, kd, wd, vl, ch, stb, kdb, wdb, vlb, chb, f', n, c0, c1, c2, c3, p0, q0, p1, q1, p2, q2, p3, q3, d0, d1, d2, d3⟩, ph, ob, lw⟩ := x
  dsimp only at hp hj hc hmu hr
  subst hp
  subst hc
  have b := h.b
  have r1 := b.r1
  have r2 := b.r2
  have hw8 : IntKind.i64.wrap 8 = 8 := by decide
  have hR : IntKind.i64.wrap (8 * R) = 8 * R := wi64 (by omega) (by omega)
  have ewj : IntKind.i64.wrap ((j : Int) + 1) = ((j + 1 : Nat) : Int) := by rw [wi64 (by omega) (by omega)]; omega
  have ok : ROk R ⟨ep, nx, sn, fl, tm, some l⟩ := b.o2
  have hl : W.length = 21 := b.hl
  have hl16 : 16 ≤ W.length := by omega
  have w0 : 0 ≤ W.getD 7 0 := (b.hw 7).1
  have w1 : W.getD 7 0 < 18446744073709551616 := (b.hw 7).2
  have s0 : 0 ≤ st := b.s0
  have s1 : st < 1000000 := by have h1 : st ≤ 100 + 2 * ((i0 + j : Nat) : Int) := b.s1; omega
  have aft := rAft (st := st) ok w0 w1
  have hdec := mr_dec (st := st) (W := W) ok w0 w1
  have hend := rEnd (st := st) (W := W) ok
  rw [hr] at aft hdec hend
  have hd1 := hdec (.inl e0)
  have okn := aft.go (.inl e0)
  obtain ⟨e4, e3, e2, e1, _⟩ := aft.lk e0
  rw [e3] at okn hd1
  have hp1 : 1 ≤ muR R ⟨ep, r.nx, r.sn, r.fl, r.tm, none⟩ W := mr_pos (W := W) okn
  have hd1 : muR R ⟨ep, r.nx, r.sn, r.fl, r.tm, none⟩ W + 1 ≤ muR R ⟨ep, nx, sn, fl, tm, some l⟩ W := hd1
  refine ⟨⟨R, f, none, 0, 0, false, 0, w00, r⟩, ?_⟩
  have hX := hXTq ⟨R, f, none, 0, 0, false, 0, w00, r⟩
  dsimp only [TG2, ssT2, ssH2, s2H2]
  refine sx hX [] 4000 rfl (by (simp [-List.getD_eq_getElem?_getD, -List.length_eq_zero_iff, conjP])) ?_
  refine sx hX [.T] 4000 rfl (by (simp [-List.getD_eq_getElem?_getD, -List.length_eq_zero_iff, conjP, getH, HE.so, hw8, hR, hj, r1, r2, hl, w0, w1, s0, s1, ok, hr, e0, slV])) ?_
  (refine J _ ⟨j + 1, ⟨W, st + 1, 1, r.wd, r.vl, false, stb, kdb, wdb, vlb, chb, f', n, c0, c1, some ⟨ep, r.nx, r.sn, r.fl, r.tm, none⟩, c3, p0, q0, p1, q1, p2, q2, p3, q3, d0, d1, d2, d3⟩, 0, ob, lw⟩ ?iv rfl _ _ _ (sub_of [0, 1, 2, 3, 4, 5, 6, 7, 8, 9, 10, 11, 12, 13, 14, 15, 16, 61, 18, 19] rfl rfl rfl (by cases bb <;> rfl) ?tt ?hh (by (repeat' (first | exact rfl | exact trivial | exact sim_refl _ | refine And.intro ?_ ?_))) ?ok); (case tt => simp only [ewj]; (repeat' (first | exact rfl | exact trivial | exact sim_refl _ | refine And.intro ?_ ?_)); done); (case hh => (((repeat' (first | exact rfl | exact trivial | exact sim_refl _ | exact simO_refl _ | exact subE_same rfl ren_scE | exact subE_same rfl ren_wlE | exact subE_same rfl ren_rlE | exact subE_same rfl ren_bwE | exact subE_wrE rfl rfl | exact subE_rdE rfl rfl | exact sim_wrP rfl | exact sim_rdP rfl | exact sim_bsV rfl | assumption | refine And.intro ?_ ?_)); done))); (case ok => (((repeat' (first | exact rfl | exact trivial | exact okE_scE | exact okE_wlE | exact okE_rlE | exact okE_bwE | exact okE_wrE rfl | exact okE_rdE rfl | exact okP_wrP (i := 13) rfl | exact okP_wrP (i := 15) rfl | exact okP_rdP (i := 17) rfl | exact okP_rdP (i := 19) rfl | exact okP_bsV rfl | refine And.intro ?_ ?_)); done))); (case iv => exact ⟨by (try dsimp only); omega, BInv.nx b hl b.hw (b.o0) (b.o1) (okn) (b.o3) (hi := by show i0 + j + 1 ≤ 10000; omega), by (try dsimp only); omega, fun _ => ⟨_, rfl, by (try dsimp only); omega⟩, fun q => by simp at q, fun q => by simp at q, fun q => by simp at q⟩))
set_option maxHeartbeats 4000000 in
theorem ts21 (h : SInv2 R i0 x) (hi0 : i0 ≤ 101) (hj : (x.j : Int) < 8 * R) {r : RR} {ep nx sn fl tm : Int} {l : List Int} (hp : x.ph = 0) (hc : x.z.c2 = some ⟨ep, nx, sn, fl, tm, some l⟩) (hmu : muR R ⟨ep, nx, sn, fl, tm, some l⟩ x.z.W + (x.j : Int) ≤ 8 * R) (hr : rStep R ⟨ep, nx, sn, fl, tm, some l⟩ x.z.W x.z.st = r) (e0 : r.k = 1) (J : ∀ p, TJ2 p bb R N i0 o f Wb hd0 x ρ w I) : ∃ p, TG2 p bb R N o f Wb hd0 x ρ w I := by
  obtain ⟨j, ⟨W, st, kd, wd, vl, ch, stb, kdb, wdb, vlb, chb, f', n, c0, c1, c2, c3, p0, q0, p1, q1, p2, q2, p3, q3, d0, d1, d2, d3⟩, ph, ob, lw⟩ := x
  dsimp only at hp hj hc hmu hr
  subst hp
  subst hc
  have b := h.b
  have r1 := b.r1
  have r2 := b.r2
  have hw8 : IntKind.i64.wrap 8 = 8 := by decide
  have hR : IntKind.i64.wrap (8 * R) = 8 * R := wi64 (by omega) (by omega)
  have ewj : IntKind.i64.wrap ((j : Int) + 1) = ((j + 1 : Nat) : Int) := by rw [wi64 (by omega) (by omega)]; omega
  have ok : ROk R ⟨ep, nx, sn, fl, tm, some l⟩ := b.o2
  have hl : W.length = 21 := b.hl
  have hl16 : 16 ≤ W.length := by omega
  have w0 : 0 ≤ W.getD 7 0 := (b.hw 7).1
  have w1 : W.getD 7 0 < 18446744073709551616 := (b.hw 7).2
  have s0 : 0 ≤ st := b.s0
  have s1 : st < 1000000 := by have h1 : st ≤ 100 + 2 * ((i0 + j : Nat) : Int) := b.s1; omega
  have aft := rAft (st := st) ok w0 w1
  have hdec := mr_dec (st := st) (W := W) ok w0 w1
  have hend := rEnd (st := st) (W := W) ok
  rw [hr] at aft hdec hend
  have hnx := hend (.inl e0)
  refine ⟨⟨R, f, none, 0, 0, false, 1, w00, r⟩, ?_⟩
  have hX := hXTq ⟨R, f, none, 0, 0, false, 1, w00, r⟩
  dsimp only [TG2, ssT2, ssH2, s2H2]
  refine sx hX [] 4000 rfl (by (simp [-List.getD_eq_getElem?_getD, -List.length_eq_zero_iff, conjP])) ?_
  refine sx hX [.T] 4000 rfl (by (simp [-List.getD_eq_getElem?_getD, -List.length_eq_zero_iff, conjP, getH, HE.so, hw8, hR, hj, r1, r2, hl, w0, w1, s0, s1, ok, hr, e0, slV])) ?_
  (simp only [hnx]; refine J _ ⟨j + 1, ⟨W, st + 1, 1, r.wd, r.vl, false, stb, kdb, wdb, vlb, chb, f', n, c0, c1, none, c3, p0, q0, p1, q1, p2, q2, p3, q3, d0, d1, d2, d3⟩, 1, rdO R ep 0 r.sn r.fl 0 r.tm (erO r.c) .nilslice, lw⟩ ?iv rfl _ _ _ (sub_of [0, 1, 2, 3, 4, 5, 6, 7, 8, 9, 10, 11, 12, 13, 14, 15, 16, 61, 18, 19] rfl rfl rfl (by cases bb <;> rfl) ?tt ?hh (by (repeat' (first | exact rfl | exact trivial | exact sim_refl _ | refine And.intro ?_ ?_))) ?ok); (case tt => simp only [ewj]; (repeat' (first | exact rfl | exact trivial | exact sim_refl _ | refine And.intro ?_ ?_)); done); (case hh => (((repeat' (first | exact rfl | exact trivial | exact sim_refl _ | exact simO_refl _ | exact subE_same rfl ren_scE | exact subE_same rfl ren_wlE | exact subE_same rfl ren_rlE | exact subE_same rfl ren_bwE | exact subE_wrE rfl rfl | exact subE_rdE rfl rfl | exact sim_wrP rfl | exact sim_rdP rfl | exact sim_bsV rfl | assumption | refine And.intro ?_ ?_)); done))); (case ok => (((repeat' (first | exact rfl | exact trivial | exact okE_scE | exact okE_wlE | exact okE_rlE | exact okE_bwE | exact okE_wrE rfl | exact okE_rdE rfl | exact okP_wrP (i := 13) rfl | exact okP_wrP (i := 15) rfl | exact okP_rdP (i := 17) rfl | exact okP_rdP (i := 19) rfl | exact okP_bsV rfl | refine And.intro ?_ ?_)); done))); (case iv => exact ⟨by (try dsimp only); omega, BInv.nx b hl b.hw (b.o0) (b.o1) (trivial) (b.o3) (hi := by show i0 + j + 1 ≤ 10000; omega), by (try dsimp only); omega, fun q => by simp at q, fun _ => ⟨_, _, _, _, _, _, rfl⟩, fun q => by simp at q, fun q => by simp at q⟩))
set_option maxHeartbeats 4000000 in
theorem ts22 (h : SInv2 R i0 x) (hi0 : i0 ≤ 101) (hj : (x.j : Int) < 8 * R) {r : RR} {ep nx sn fl tm : Int} {l : List Int} (hp : x.ph = 0) (hc : x.z.c2 = some ⟨ep, nx, sn, fl, tm, some l⟩) (hmu : muR R ⟨ep, nx, sn, fl, tm, some l⟩ x.z.W + (x.j : Int) ≤ 8 * R) (hr : rStep R ⟨ep, nx, sn, fl, tm, some l⟩ x.z.W x.z.st = r) (e0 : r.k = 2) (J : ∀ p, TJ2 p bb R N i0 o f Wb hd0 x ρ w I) : ∃ p, TG2 p bb R N o f Wb hd0 x ρ w I := by
  obtain ⟨j, ⟨W, st, kd, wd, vl, ch, stb, kdb, wdb, vlb, chb, f', n, c0, c1, c2, c3, p0, q0, p1, q1, p2, q2, p3, q3, d0, d1, d2, d3⟩, ph, ob, lw⟩ := x
  dsimp only at hp hj hc hmu hr
  subst hp
  subst hc
  have b := h.b
  have r1 := b.r1
  have r2 := b.r2
  have hw8 : IntKind.i64.wrap 8 = 8 := by decide
  have hR : IntKind.i64.wrap (8 * R) = 8 * R := wi64 (by omega) (by omega)
  have ewj : IntKind.i64.wrap ((j : Int) + 1) = ((j + 1 : Nat) : Int) := by rw [wi64 (by omega) (by omega)]; omega
  have ok : ROk R ⟨ep, nx, sn, fl, tm, some l⟩ := b.o2
  have hl : W.length = 21 := b.hl
  have hl16 : 16 ≤ W.length := by omega
  have w0 : 0 ≤ W.getD 7 0 := (b.hw 7).1
  have w1 : W.getD 7 0 < 18446744073709551616 := (b.hw 7).2
  have s0 : 0 ≤ st := b.s0
  have s1 : st < 1000000 := by have h1 : st ≤ 100 + 2 * ((i0 + j : Nat) : Int) := b.s1; omega
  have aft := rAft (st := st) ok w0 w1
  have hdec := mr_dec (st := st) (W := W) ok w0 w1
  have hend := rEnd (st := st) (W := W) ok
  rw [hr] at aft hdec hend
  have hnx := hend (.inr (.inl e0))
  refine ⟨⟨R, f, none, 0, 0, false, 2, w00, r⟩, ?_⟩
  have hX := hXTq ⟨R, f, none, 0, 0, false, 2, w00, r⟩
  dsimp only [TG2, ssT2, ssH2, s2H2]
  refine sx hX [] 4000 rfl (by (simp [-List.getD_eq_getElem?_getD, -List.length_eq_zero_iff, conjP])) ?_
  refine sx hX [.T] 4000 rfl (by (simp [-List.getD_eq_getElem?_getD, -List.length_eq_zero_iff, conjP, getH, HE.so, hw8, hR, hj, r1, r2, hl, w0, w1, s0, s1, ok, hr, e0, slV])) ?_
  (simp only [hnx]; refine J _ ⟨j + 1, ⟨W, st + 1, 1, r.wd, r.vl, false, stb, kdb, wdb, vlb, chb, f', n, c0, c1, none, c3, p0, q0, p1, q1, p2, q2, p3, q3, d0, d1, d2, d3⟩, 2, rdO R ep 0 r.sn r.fl 0 r.tm .niliface (.sbuf 17 1 0 l.length), l⟩ ?iv rfl _ _ _ (sub_of [0, 1, 2, 3, 4, 5, 6, 7, 8, 9, 10, 11, 12, 13, 14, 15, 16, 17, 18, 19] rfl rfl rfl (by cases bb <;> rfl) ?tt ?hh (by (repeat' (first | exact rfl | exact trivial | exact sim_refl _ | refine And.intro ?_ ?_))) ?ok); (case tt => simp only [ewj]; (repeat' (first | exact rfl | exact trivial | exact sim_refl _ | refine And.intro ?_ ?_)); done); (case hh => (((repeat' (first | exact rfl | exact trivial | exact sim_refl _ | exact simO_refl _ | exact subE_same rfl ren_scE | exact subE_same rfl ren_wlE | exact subE_same rfl ren_rlE | exact subE_same rfl ren_bwE | exact subE_wrE rfl rfl | exact subE_rdE rfl rfl | exact sim_wrP rfl | exact sim_rdP rfl | exact sim_bsV rfl | assumption | refine And.intro ?_ ?_)); done))); (case ok => (((repeat' (first | exact rfl | exact trivial | exact okE_scE | exact okE_wlE | exact okE_rlE | exact okE_bwE | exact okE_wrE rfl | exact okE_rdE rfl | exact okP_wrP (i := 13) rfl | exact okP_wrP (i := 15) rfl | exact okP_rdP (i := 17) rfl | exact okP_rdP (i := 19) rfl | exact okP_bsV rfl | refine And.intro ?_ ?_)); done))); (case iv => exact ⟨by (try dsimp only); omega, BInv.nx b hl b.hw (b.o0) (b.o1) (trivial) (b.o3) (hi := by show i0 + j + 1 ≤ 10000; omega), by (try dsimp only); omega, fun q => by simp at q, fun q => by simp at q, fun _ => ⟨_, _, _, _, _, rfl⟩, fun q => by simp at q⟩))
set_option maxHeartbeats 4000000 in
theorem ts23 (h : SInv2 R i0 x) (hi0 : i0 ≤ 101) (hj : (x.j : Int) < 8 * R) {r : RR} {ep nx sn fl tm : Int} {l : List Int} (hp : x.ph = 0) (hc : x.z.c2 = some ⟨ep, nx, sn, fl, tm, some l⟩) (hmu : muR R ⟨ep, nx, sn, fl, tm, some l⟩ x.z.W + (x.j : Int) ≤ 8 * R) (hr : rStep R ⟨ep, nx, sn, fl, tm, some l⟩ x.z.W x.z.st = r) (e0 : r.k = 3) (J : ∀ p, TJ2 p bb R N i0 o f Wb hd0 x ρ w I) : ∃ p, TG2 p bb R N o f Wb hd0 x ρ w I := by
  obtain ⟨j, ⟨W, st, kd, wd, vl, ch, stb, kdb, wdb, vlb, chb, f', n, c0, c1, c2, c3, p0, q0, p1, q1, p2, q2, p3, q3, d0, d1, d2, d3⟩, ph, ob, lw⟩ := x
  dsimp only at hp hj hc hmu hr
  subst hp
  subst hc
  have b := h.b
  have r1 := b.r1
  have r2 := b.r2
  have hw8 : IntKind.i64.wrap 8 = 8 := by decide
  have hR : IntKind.i64.wrap (8 * R) = 8 * R := wi64 (by omega) (by omega)
  have ewj : IntKind.i64.wrap ((j : Int) + 1) = ((j + 1 : Nat) : Int) := by rw [wi64 (by omega) (by omega)]; omega
  have ok : ROk R ⟨ep, nx, sn, fl, tm, some l⟩ := b.o2
  have hl : W.length = 21 := b.hl
  have hl16 : 16 ≤ W.length := by omega
  have w0 : 0 ≤ W.getD 7 0 := (b.hw 7).1
  have w1 : W.getD 7 0 < 18446744073709551616 := (b.hw 7).2
  have s0 : 0 ≤ st := b.s0
  have s1 : st < 1000000 := by have h1 : st ≤ 100 + 2 * ((i0 + j : Nat) : Int) := b.s1; omega
  have aft := rAft (st := st) ok w0 w1
  have hdec := mr_dec (st := st) (W := W) ok w0 w1
  have hend := rEnd (st := st) (W := W) ok
  rw [hr] at aft hdec hend
  have hd1 := hdec (.inr (.inl e0))
  have hwl : (l ++ [r.vl]).length = l.length + 1 := by simp
  have hwr := hwl.symm
  have okn := aft.go (.inr (.inl e0))
  obtain ⟨e4, e2, e1, _, _, e3, _⟩ := aft.wd e0
  rw [e3] at okn hd1
  have hp1 : 1 ≤ muR R ⟨ep, r.nx, r.sn, r.fl, r.tm, (some (l ++ [r.vl]))⟩ W := mr_pos (W := W) okn
  have hd1 : muR R ⟨ep, r.nx, r.sn, r.fl, r.tm, (some (l ++ [r.vl]))⟩ W + 1 ≤ muR R ⟨ep, nx, sn, fl, tm, some l⟩ W := hd1
  refine ⟨⟨R, f, none, 0, 0, false, 3, w00, r⟩, ?_⟩
  have hX := hXTq ⟨R, f, none, 0, 0, false, 3, w00, r⟩
  dsimp only [TG2, ssT2, ssH2, s2H2]
  refine sx hX [] 4000 rfl (by (simp [-List.getD_eq_getElem?_getD, -List.length_eq_zero_iff, conjP])) ?_
  refine sx hX [.T] 4000 rfl (by (simp [-List.getD_eq_getElem?_getD, -List.length_eq_zero_iff, conjP, getH, HE.so, hw8, hR, hj, r1, r2, hl, w0, w1, s0, s1, ok, hr, e0, slV])) ?_
  (refine J _ ⟨j + 1, ⟨W, st + 1, 1, r.wd, r.vl, false, stb, kdb, wdb, vlb, chb, f', n, c0, c1, some ⟨ep, r.nx, r.sn, r.fl, r.tm, (some (l ++ [r.vl]))⟩, c3, p0, q0, p1, q1, p2, q2, p3, q3, d0, d1, d2, d3⟩, 0, ob, lw⟩ ?iv rfl _ _ _ (sub_of [0, 1, 2, 3, 4, 5, 6, 7, 8, 9, 10, 11, 12, 13, 14, 15, 16, 20, 18, 19] rfl rfl rfl (by cases bb <;> rfl) ?tt ?hh (by (repeat' (first | exact rfl | exact trivial | exact sim_refl _ | refine And.intro ?_ ?_))) ?ok); (case tt => simp only [ewj]; (repeat' (first | exact rfl | exact trivial | exact sim_refl _ | refine And.intro ?_ ?_)); done); (case hh => (((repeat' (first | exact rfl | exact trivial | exact sim_refl _ | exact simO_refl _ | exact subE_same rfl ren_scE | exact subE_same rfl ren_wlE | exact subE_same rfl ren_rlE | exact subE_same rfl ren_bwE | exact subE_wrE rfl rfl | exact subE_rdE rfl rfl | exact sim_wrP rfl | exact sim_rdP rfl | exact sim_bsV rfl | assumption | refine And.intro ?_ ?_)); done))); (case ok => (((repeat' (first | exact rfl | exact trivial | exact okE_scE | exact okE_wlE | exact okE_rlE | exact okE_bwE | exact okE_wrE rfl | exact okE_rdE rfl | exact okP_wrP (i := 13) rfl | exact okP_wrP (i := 15) rfl | exact okP_rdP (i := 17) rfl | exact okP_rdP (i := 19) rfl | exact okP_bsV rfl | refine And.intro ?_ ?_)); done))); (case iv => exact ⟨by (try dsimp only); omega, BInv.nx b hl b.hw (b.o0) (b.o1) (okn) (b.o3) (hi := by show i0 + j + 1 ≤ 10000; omega), by (try dsimp only); omega, fun _ => ⟨_, rfl, by (try dsimp only); omega⟩, fun q => by simp at q, fun q => by simp at q, fun q => by simp at q⟩))
set_option maxHeartbeats 4000000 in
theorem ts24 (h : SInv2 R i0 x) (hi0 : i0 ≤ 101) (hj : (x.j : Int) < 8 * R) {r : RR} {ep nx sn fl tm : Int} {l : List Int} (hp : x.ph = 0) (hc : x.z.c2 = some ⟨ep, nx, sn, fl, tm, some l⟩) (hmu : muR R ⟨ep, nx, sn, fl, tm, some l⟩ x.z.W + (x.j : Int) ≤ 8 * R) (hr : rStep R ⟨ep, nx, sn, fl, tm, some l⟩ x.z.W x.z.st = r) (e0 : r.k = 4) (J : ∀ p, TJ2 p bb R N i0 o f Wb hd0 x ρ w I) : ∃ p, TG2 p bb R N o f Wb hd0 x ρ w I := by
  obtain ⟨j, ⟨W, st, kd, wd, vl, ch, stb, kdb, wdb, vlb, chb, f', n, c0, c1, c2, c3, p0, q0, p1, q1, p2, q2, p3, q3, d0, d1, d2, d3⟩, ph, ob, lw⟩ := x
  dsimp only at hp hj hc hmu hr
  subst hp
  subst hc
  have b := h.b
  have r1 := b.r1
  have r2 := b.r2
  have hw8 : IntKind.i64.wrap 8 = 8 := by decide
  have hR : IntKind.i64.wrap (8 * R) = 8 * R := wi64 (by omega) (by omega)
  have ewj : IntKind.i64.wrap ((j : Int) + 1) = ((j + 1 : Nat) : Int) := by rw [wi64 (by omega) (by omega)]; omega
  have ok : ROk R ⟨ep, nx, sn, fl, tm, some l⟩ := b.o2
  have hl : W.length = 21 := b.hl
  have hl16 : 16 ≤ W.length := by omega
  have w0 : 0 ≤ W.getD 7 0 := (b.hw 7).1
  have w1 : W.getD 7 0 < 18446744073709551616 := (b.hw 7).2
  have s0 : 0 ≤ st := b.s0
  have s1 : st < 1000000 := by have h1 : st ≤ 100 + 2 * ((i0 + j : Nat) : Int) := b.s1; omega
  have aft := rAft (st := st) ok w0 w1
  have hdec := mr_dec (st := st) (W := W) ok w0 w1
  have hend := rEnd (st := st) (W := W) ok
  rw [hr] at aft hdec hend
  have hd1 := hdec (.inr (.inr e0))
  have okn := aft.go (.inr (.inr e0))
  obtain ⟨e4, e3, e1, e2⟩ := aft.fa (.inl e0)
  rw [e2] at okn hd1
  have hp1 : 1 ≤ muR R ⟨ep, r.nx, r.sn, r.fl, r.tm, (some l)⟩ W := mr_pos (W := W) okn
  have hd1 : muR R ⟨ep, r.nx, r.sn, r.fl, r.tm, (some l)⟩ W + 1 ≤ muR R ⟨ep, nx, sn, fl, tm, some l⟩ W := hd1
  refine ⟨⟨R, f, none, 0, 0, false, 4, w00, r⟩, ?_⟩
  have hX := hXTq ⟨R, f, none, 0, 0, false, 4, w00, r⟩
  dsimp only [TG2, ssT2, ssH2, s2H2]
  refine sx hX [] 4000 rfl (by (simp [-List.getD_eq_getElem?_getD, -List.length_eq_zero_iff, conjP])) ?_
  refine sx hX [.T] 4000 rfl (by (simp [-List.getD_eq_getElem?_getD, -List.length_eq_zero_iff, conjP, getH, HE.so, hw8, hR, hj, r1, r2, hl, w0, w1, s0, s1, ok, hr, e0, slV])) ?_
  (refine J _ ⟨j + 1, ⟨W, st + 1, 1, r.wd, r.vl, false, stb, kdb, wdb, vlb, chb, f', n, c0, c1, some ⟨ep, r.nx, r.sn, r.fl, r.tm, (some l)⟩, c3, p0, q0, p1, q1, p2, q2, p3, q3, d0, d1, d2, d3⟩, 0, ob, lw⟩ ?iv rfl _ _ _ (sub_of [0, 1, 2, 3, 4, 5, 6, 7, 8, 9, 10, 11, 12, 13, 14, 15, 16, 17, 18, 19] rfl rfl rfl (by cases bb <;> rfl) ?tt ?hh (by (repeat' (first | exact rfl | exact trivial | exact sim_refl _ | refine And.intro ?_ ?_))) ?ok); (case tt => simp only [ewj]; (repeat' (first | exact rfl | exact trivial | exact sim_refl _ | refine And.intro ?_ ?_)); done); (case hh => (((repeat' (first | exact rfl | exact trivial | exact sim_refl _ | exact simO_refl _ | exact subE_same rfl ren_scE | exact subE_same rfl ren_wlE | exact subE_same rfl ren_rlE | exact subE_same rfl ren_bwE | exact subE_wrE rfl rfl | exact subE_rdE rfl rfl | exact sim_wrP rfl | exact sim_rdP rfl | exact sim_bsV rfl | assumption | refine And.intro ?_ ?_)); done))); (case ok => (((repeat' (first | exact rfl | exact trivial | exact okE_scE | exact okE_wlE | exact okE_rlE | exact okE_bwE | exact okE_wrE rfl | exact okE_rdE rfl | exact okP_wrP (i := 13) rfl | exact okP_wrP (i := 15) rfl | exact okP_rdP (i := 17) rfl | exact okP_rdP (i := 19) rfl | exact okP_bsV rfl | refine And.intro ?_ ?_)); done))); (case iv => exact ⟨by (try dsimp only); omega, BInv.nx b hl b.hw (b.o0) (b.o1) (okn) (b.o3) (hi := by show i0 + j + 1 ≤ 10000; omega), by (try dsimp only); omega, fun _ => ⟨_, rfl, by (try dsimp only); omega⟩, fun q => by simp at q, fun q => by simp at q, fun q => by simp at q⟩))
set_option maxHeartbeats 4000000 in
theorem ts25 (h : SInv2 R i0 x) (hi0 : i0 ≤ 101) (hj : (x.j : Int) < 8 * R) {r : RR} {ep nx sn fl tm : Int} {l : List Int} (hp : x.ph = 0) (hc : x.z.c2 = some ⟨ep, nx, sn, fl, tm, some l⟩) (hmu : muR R ⟨ep, nx, sn, fl, tm, some l⟩ x.z.W + (x.j : Int) ≤ 8 * R) (hr : rStep R ⟨ep, nx, sn, fl, tm, some l⟩ x.z.W x.z.st = r) (e0 : r.k = 5) (J : ∀ p, TJ2 p bb R N i0 o f Wb hd0 x ρ w I) : ∃ p, TG2 p bb R N o f Wb hd0 x ρ w I := by
  obtain ⟨j, ⟨W, st, kd, wd, vl, ch, stb, kdb, wdb, vlb, chb, f', n, c0, c1, c2, c3, p0, q0, p1, q1, p2, q2, p3, q3, d0, d1, d2, d3⟩, ph, ob, lw⟩ := x
  dsimp only at hp hj hc hmu hr
  subst hp
  subst hc
  have b := h.b
  have r1 := b.r1
  have r2 := b.r2
  have hw8 : IntKind.i64.wrap 8 = 8 := by decide
  have hR : IntKind.i64.wrap (8 * R) = 8 * R := wi64 (by omega) (by omega)
  have ewj : IntKind.i64.wrap ((j : Int) + 1) = ((j + 1 : Nat) : Int) := by rw [wi64 (by omega) (by omega)]; omega
  have ok : ROk R ⟨ep, nx, sn, fl, tm, some l⟩ := b.o2
  have hl : W.length = 21 := b.hl
  have hl16 : 16 ≤ W.length := by omega
  have w0 : 0 ≤ W.getD 7 0 := (b.hw 7).1
  have w1 : W.getD 7 0 < 18446744073709551616 := (b.hw 7).2
  have s0 : 0 ≤ st := b.s0
  have s1 : st < 1000000 := by have h1 : st ≤ 100 + 2 * ((i0 + j : Nat) : Int) := b.s1; omega
  have aft := rAft (st := st) ok w0 w1
  have hdec := mr_dec (st := st) (W := W) ok w0 w1
  have hend := rEnd (st := st) (W := W) ok
  rw [hr] at aft hdec hend
  have hnx := hend (.inr (.inr e0))
  refine ⟨⟨R, f, none, 0, 0, false, 5, w00, r⟩, ?_⟩
  have hX := hXTq ⟨R, f, none, 0, 0, false, 5, w00, r⟩
  dsimp only [TG2, ssT2, ssH2, s2H2]
  refine sx hX [] 4000 rfl (by (simp [-List.getD_eq_getElem?_getD, -List.length_eq_zero_iff, conjP])) ?_
  refine sx hX [.T] 4000 rfl (by (simp [-List.getD_eq_getElem?_getD, -List.length_eq_zero_iff, conjP, getH, HE.so, hw8, hR, hj, r1, r2, hl, w0, w1, s0, s1, ok, hr, e0, slV])) ?_
  (simp only [hnx]; refine J _ ⟨j + 1, ⟨W, st + 1, 1, r.wd, r.vl, false, stb, kdb, wdb, vlb, chb, f', n, c0, c1, none, c3, p0, q0, p1, q1, p2, q2, p3, q3, d0, d1, d2, d3⟩, 3, rdO R ep 0 r.sn r.fl 0 r.tm (erO r.c) (.sbuf 17 1 0 l.length), l⟩ ?iv rfl _ _ _ (sub_of [0, 1, 2, 3, 4, 5, 6, 7, 8, 9, 10, 11, 12, 13, 14, 15, 16, 17, 18, 19] rfl rfl rfl (by cases bb <;> rfl) ?tt ?hh (by (repeat' (first | exact rfl | exact trivial | exact sim_refl _ | refine And.intro ?_ ?_))) ?ok); (case tt => simp only [ewj]; (repeat' (first | exact rfl | exact trivial | exact sim_refl _ | refine And.intro ?_ ?_)); done); (case hh => (((repeat' (first | exact rfl | exact trivial | exact sim_refl _ | exact simO_refl _ | exact subE_same rfl ren_scE | exact subE_same rfl ren_wlE | exact subE_same rfl ren_rlE | exact subE_same rfl ren_bwE | exact subE_wrE rfl rfl | exact subE_rdE rfl rfl | exact sim_wrP rfl | exact sim_rdP rfl | exact sim_bsV rfl | assumption | refine And.intro ?_ ?_)); done))); (case ok => (((repeat' (first | exact rfl | exact trivial | exact okE_scE | exact okE_wlE | exact okE_rlE | exact okE_bwE | exact okE_wrE rfl | exact okE_rdE rfl | exact okP_wrP (i := 13) rfl | exact okP_wrP (i := 15) rfl | exact okP_rdP (i := 17) rfl | exact okP_rdP (i := 19) rfl | exact okP_bsV rfl | refine And.intro ?_ ?_)); done))); (case iv => exact ⟨by (try dsimp only); omega, BInv.nx b hl b.hw (b.o0) (b.o1) (trivial) (b.o3) (hi := by show i0 + j + 1 ≤ 10000; omega), by (try dsimp only); omega, fun q => by simp at q, fun q => by simp at q, fun q => by simp at q, fun _ => ⟨_, _, _, _, _, _, rfl⟩⟩))
end
end Go.Proofs.YtmghcelohnlceaaGreatDoor


/- SmallAlone: client 3 goes on alone, step by step. -/
namespace Go.Proofs.YtmghcelohnlceaaGreatDoor
open Go Go.Hx
set_option maxRecDepth 8000
structure SS3 where
  (j : Nat) (z : Wd) (ph : Nat) (ob : SO) (lw : List Int)
def s2H3 (e : HE) (R : Int) (f : Bool) (Wb : List Int) (z : Wd) (cell : SV) (e1 e2 : HE) : List HE :=
  [e, pinE RTV, .obj (xO R 3 5 7 z.n), AOx 4 z.W z.st z.kd z.wd z.vl z.ch, WO z.W, .obj (rbO (bsV f 6) z.stb z.kdb z.wdb z.vlb z.chb), bwE f Wb, .obj (kO 8 9 10 11), .obj (cqO (wrP z.c0 12) .nilptr z.p0 z.q0 z.d0), .obj (cqO (wrP z.c1 14) .nilptr z.p1 z.q1 z.d1), .obj (cqO .nilptr (rdP z.c2 16) z.p2 z.q2 z.d2), .obj (cqO .nilptr cell z.p3 z.q3 z.d3), wrE R z.c0 13, wlE z.c0, wrE R z.c1 15, wlE z.c1, rdE R z.c2 17, rlE z.c2, e1, e2]
def ssT3 (hd : Bool) (x : SS3) : List (Nat × SV) := [(7, .tt), (8, .ptr 2 0), (12, .ptr 11 0), (13, .bool hd), (14, .int .i64 (x.j : Int))]
def ssH3 (bb : Bool) (N : Nat) (o : Nat → Int × Int) (R : Int) (f : Bool) (Wb : List Int) (x : SS3) : List HE := match x.ph with
  | 0 => s2H3 (scE bb N o) R f Wb x.z (rdP x.z.c3 18) (rdE R x.z.c3 19) (rlE x.z.c3)
  | 1 => s2H3 (scE bb N o) R f Wb x.z (.ptr 18 0) (.obj x.ob) .absent
  | _ => s2H3 (scE bb N o) R f Wb x.z (.ptr 18 0) (.obj x.ob) (wdE x.lw)
/-- What is so all along. -/
structure SInv3 (R : Int) (i0 : Nat) (x : SS3) : Prop where
  jb : (x.j : Int) ≤ 8 * R
  b : BInv R (i0 + x.j) x.z
  ph2 : x.ph ≤ 3
  on : x.ph = 0 → ∃ s, x.z.c3 = some s ∧ muR R s x.z.W + (x.j : Int) ≤ 8 * R
  e1 : x.ph = 1 → ∃ ep sn fl cm tm c, x.ob = rdO R ep 0 sn fl cm tm (erO c) .nilslice
  e2 : x.ph = 2 → ∃ ep sn fl cm tm, x.ob = rdO R ep 0 sn fl cm tm .niliface (.sbuf 19 1 0 x.lw.length)
  e3 : x.ph = 3 → ∃ ep sn fl cm tm c, x.ob = rdO R ep 0 sn fl cm tm (erO c) (.sbuf 19 1 0 x.lw.length)
section
variable {bb : Bool} {R : Int} {N i0 : Nat} {o : Nat → Int × Int} {f : Bool} {Wb : List Int} {hd0 : Bool} {x : SS3} {ρ : Nat → Nat × Nat} {w : World} {I : Act → World → Prop}
abbrev TJ3 (p : TQ) (bb : Bool) (R : Int) (N i0 : Nat) (o : Nat → Int × Int) (f : Bool) (Wb : List Int) (hd0 : Bool) (x : SS3) (ρ : Nat → Nat × Nat) (w : World) (I : Act → World → Prop) : Prop :=
  ∀ x', SInv3 R i0 x' → x'.j = x.j + 1 → ∀ cs T H, Sub (FEnv Tryz.prog (XTq p).TE (hXTq p).te Tryz.f3 Tryz.f3.ntmps [scE bb N o, pinE RTV] (Is .tt [scE bb N o, pinE RTV]) ρ w) T H (ssT3 hd0 x') (ssH3 bb N o R f Wb x') →
    SS (hXTq p) (At ρ w) (Is .tt [scE bb N o, pinE RTV]) ⟨cs, [], Tryz.f3, Tryz.f3.ntmps, [scE bb N o, pinE RTV], downLp (contF Tryz.f3 21 [I]), T, H⟩
abbrev TG3 (p : TQ) (bb : Bool) (R : Int) (N : Nat) (o : Nat → Int × Int) (f : Bool) (Wb : List Int) (hd0 : Bool) (x : SS3) (ρ : Nat → Nat × Nat) (w : World) (I : Act → World → Prop) : Prop :=
  SS (hXTq p) (At ρ w) (Is .tt [scE bb N o, pinE RTV]) ⟨[], [], Tryz.f3, Tryz.f3.ntmps, [scE bb N o, pinE RTV], contF Tryz.f3 21 [I], ssT3 hd0 x, ssH3 bb N o R f Wb x⟩

set_option maxHeartbeats 4000000 in
theorem td31 (h : SInv3 R i0 x) (hi0 : i0 ≤ 101) (hj : (x.j : Int) < 8 * R) (hp : x.ph = 1) (J : ∀ p, TJ3 p bb R N i0 o f Wb hd0 x ρ w I) : ∃ p, TG3 p bb R N o f Wb hd0 x ρ w I := by
  obtain ⟨j, ⟨W, st, kd, wd, vl, ch, stb, kdb, wdb, vlb, chb, f', n, c0, c1, c2, c3, p0, q0, p1, q1, p2, q2, p3, q3, d0, d1, d2, d3⟩, ph, ob, lw⟩ := x
  dsimp only at hp hj
  subst hp
  obtain ⟨ep, sn, fl, cm, tm, c, e1⟩ := h.e1 rfl
  dsimp only at e1
  subst e1
  have b := h.b
  have r1 := b.r1
  have r2 := b.r2
  have hw8 : IntKind.i64.wrap 8 = 8 := by decide
  have hR : IntKind.i64.wrap (8 * R) = 8 * R := wi64 (by omega) (by omega)
  have ewj : IntKind.i64.wrap ((j : Int) + 1) = ((j + 1 : Nat) : Int) := by rw [wi64 (by omega) (by omega)]; omega
  refine ⟨⟨R, f, none, 0, 0, false, 10, w00, r00⟩, ?_⟩
  have hX := hXTq ⟨R, f, none, 0, 0, false, 10, w00, r00⟩
  dsimp only [TG3, ssT3, ssH3, s2H3]
  refine sx hX [] 4000 rfl (by (simp [-List.getD_eq_getElem?_getD, -List.length_eq_zero_iff, conjP])) ?_
  refine sx hX [.T] 4000 rfl (by (simp [-List.getD_eq_getElem?_getD, -List.length_eq_zero_iff, conjP, getH, HE.so, hw8, hR, hj])) ?_
  (refine J _ ⟨j + 1, ⟨W, st, kd, wd, vl, ch, stb, kdb, wdb, vlb, chb, f', n, c0, c1, c2, c3, p0, q0, p1, q1, p2, q2, p3, q3, d0, d1, d2, d3⟩, 1, rdO R ep 0 sn fl cm tm (erO c) .nilslice, lw⟩ ?iv rfl _ _ _ (sub_of [0, 1, 2, 3, 4, 5, 6, 7, 8, 9, 10, 11, 12, 13, 14, 15, 16, 17, 18, 61] rfl rfl rfl (by cases bb <;> rfl) ?tt ?hh (by (repeat' (first | exact rfl | exact trivial | exact sim_refl _ | refine And.intro ?_ ?_))) ?ok); (case tt => simp only [ewj]; (repeat' (first | exact rfl | exact trivial | exact sim_refl _ | refine And.intro ?_ ?_)); done); (case hh => (((repeat' (first | exact rfl | exact trivial | exact sim_refl _ | exact simO_refl _ | exact subE_same rfl ren_scE | exact subE_same rfl ren_wlE | exact subE_same rfl ren_rlE | exact subE_same rfl ren_bwE | exact subE_wrE rfl rfl | exact subE_rdE rfl rfl | exact sim_wrP rfl | exact sim_rdP rfl | exact sim_bsV rfl | assumption | refine And.intro ?_ ?_)); done))); (case ok => (((repeat' (first | exact rfl | exact trivial | exact okE_scE | exact okE_wlE | exact okE_rlE | exact okE_bwE | exact okE_wrE rfl | exact okE_rdE rfl | exact okP_wrP (i := 13) rfl | exact okP_wrP (i := 15) rfl | exact okP_rdP (i := 17) rfl | exact okP_rdP (i := 19) rfl | exact okP_bsV rfl | refine And.intro ?_ ?_)); done))); (case iv => exact ⟨by (try dsimp only); omega, BInv.nx b b.hl b.hw b.o0 b.o1 b.o2 b.o3 (hi := by show i0 + j + 1 ≤ 10000; omega), h.ph2, fun q => by simp at q, fun _ => ⟨ep, sn, fl, cm, tm, c, rfl⟩, fun q => by simp at q, fun q => by simp at q⟩))
set_option maxHeartbeats 4000000 in
theorem td32 (h : SInv3 R i0 x) (hi0 : i0 ≤ 101) (hj : (x.j : Int) < 8 * R) (hp : x.ph = 2) (J : ∀ p, TJ3 p bb R N i0 o f Wb hd0 x ρ w I) : ∃ p, TG3 p bb R N o f Wb hd0 x ρ w I := by
  obtain ⟨j, ⟨W, st, kd, wd, vl, ch, stb, kdb, wdb, vlb, chb, f', n, c0, c1, c2, c3, p0, q0, p1, q1, p2, q2, p3, q3, d0, d1, d2, d3⟩, ph, ob, lw⟩ := x
  dsimp only at hp hj
  subst hp
  obtain ⟨ep, sn, fl, cm, tm, e1⟩ := h.e2 rfl
  dsimp only at e1
  subst e1
  have b := h.b
  have r1 := b.r1
  have r2 := b.r2
  have hw8 : IntKind.i64.wrap 8 = 8 := by decide
  have hR : IntKind.i64.wrap (8 * R) = 8 * R := wi64 (by omega) (by omega)
  have ewj : IntKind.i64.wrap ((j : Int) + 1) = ((j + 1 : Nat) : Int) := by rw [wi64 (by omega) (by omega)]; omega
  refine ⟨⟨R, f, none, 0, 0, false, 8, w00, r00⟩, ?_⟩
  have hX := hXTq ⟨R, f, none, 0, 0, false, 8, w00, r00⟩
  dsimp only [TG3, ssT3, ssH3, s2H3]
  refine sx hX [] 4000 rfl (by (simp [-List.getD_eq_getElem?_getD, -List.length_eq_zero_iff, conjP])) ?_
  refine sx hX [.T] 4000 rfl (by (simp [-List.getD_eq_getElem?_getD, -List.length_eq_zero_iff, conjP, getH, HE.so, hw8, hR, hj])) ?_
  (refine J _ ⟨j + 1, ⟨W, st, kd, wd, vl, ch, stb, kdb, wdb, vlb, chb, f', n, c0, c1, c2, c3, p0, q0, p1, q1, p2, q2, p3, q3, d0, d1, d2, d3⟩, 2, rdO R ep 0 sn fl cm tm .niliface (.sbuf 19 1 0 lw.length), lw⟩ ?iv rfl _ _ _ (sub_of [0, 1, 2, 3, 4, 5, 6, 7, 8, 9, 10, 11, 12, 13, 14, 15, 16, 17, 18, 19] rfl rfl rfl (by cases bb <;> rfl) ?tt ?hh (by (repeat' (first | exact rfl | exact trivial | exact sim_refl _ | refine And.intro ?_ ?_))) ?ok); (case tt => simp only [ewj]; (repeat' (first | exact rfl | exact trivial | exact sim_refl _ | refine And.intro ?_ ?_)); done); (case hh => (((repeat' (first | exact rfl | exact trivial | exact sim_refl _ | exact simO_refl _ | exact subE_same rfl ren_scE | exact subE_same rfl ren_wlE | exact subE_same rfl ren_rlE | exact subE_same rfl ren_bwE | exact subE_wrE rfl rfl | exact subE_rdE rfl rfl | exact sim_wrP rfl | exact sim_rdP rfl | exact sim_bsV rfl | assumption | refine And.intro ?_ ?_)); done))); (case ok => (((repeat' (first | exact rfl | exact trivial | exact okE_scE | exact okE_wlE | exact okE_rlE | exact okE_bwE | exact okE_wrE rfl | exact okE_rdE rfl | exact okP_wrP (i := 13) rfl | exact okP_wrP (i := 15) rfl | exact okP_rdP (i := 17) rfl | exact okP_rdP (i := 19) rfl | exact okP_bsV rfl | refine And.intro ?_ ?_)); done))); (case iv => exact ⟨by (try dsimp only); omega, BInv.nx b b.hl b.hw b.o0 b.o1 b.o2 b.o3 (hi := by show i0 + j + 1 ≤ 10000; omega), h.ph2, fun q => by simp at q, fun q => by simp at q, fun _ => ⟨ep, sn, fl, cm, tm, rfl⟩, fun q => by simp at q⟩))
set_option maxHeartbeats 4000000 in
theorem td33 (h : SInv3 R i0 x) (hi0 : i0 ≤ 101) (hj : (x.j : Int) < 8 * R) (hp : x.ph = 3) (J : ∀ p, TJ3 p bb R N i0 o f Wb hd0 x ρ w I) : ∃ p, TG3 p bb R N o f Wb hd0 x ρ w I := by
  obtain ⟨j, ⟨W, st, kd, wd, vl, ch, stb, kdb, wdb, vlb, chb, f', n, c0, c1, c2, c3, p0, q0, p1, q1, p2, q2, p3, q3, d0, d1, d2, d3⟩, ph, ob, lw⟩ := x
  dsimp only at hp hj
  subst hp
  obtain ⟨ep, sn, fl, cm, tm, c, e1⟩ := h.e3 rfl
  dsimp only at e1
  subst e1
  have b := h.b
  have r1 := b.r1
  have r2 := b.r2
  have hw8 : IntKind.i64.wrap 8 = 8 := by decide
  have hR : IntKind.i64.wrap (8 * R) = 8 * R := wi64 (by omega) (by omega)
  have ewj : IntKind.i64.wrap ((j : Int) + 1) = ((j + 1 : Nat) : Int) := by rw [wi64 (by omega) (by omega)]; omega
  refine ⟨⟨R, f, none, 0, 0, false, 9, w00, r00⟩, ?_⟩
  have hX := hXTq ⟨R, f, none, 0, 0, false, 9, w00, r00⟩
  dsimp only [TG3, ssT3, ssH3, s2H3]
  refine sx hX [] 4000 rfl (by (simp [-List.getD_eq_getElem?_getD, -List.length_eq_zero_iff, conjP])) ?_
  refine sx hX [.T] 4000 rfl (by (simp [-List.getD_eq_getElem?_getD, -List.length_eq_zero_iff, conjP, getH, HE.so, hw8, hR, hj])) ?_
  (refine J _ ⟨j + 1, ⟨W, st, kd, wd, vl, ch, stb, kdb, wdb, vlb, chb, f', n, c0, c1, c2, c3, p0, q0, p1, q1, p2, q2, p3, q3, d0, d1, d2, d3⟩, 3, rdO R ep 0 sn fl cm tm (erO c) (.sbuf 19 1 0 lw.length), lw⟩ ?iv rfl _ _ _ (sub_of [0, 1, 2, 3, 4, 5, 6, 7, 8, 9, 10, 11, 12, 13, 14, 15, 16, 17, 18, 19] rfl rfl rfl (by cases bb <;> rfl) ?tt ?hh (by (repeat' (first | exact rfl | exact trivial | exact sim_refl _ | refine And.intro ?_ ?_))) ?ok); (case tt => simp only [ewj]; (repeat' (first | exact rfl | exact trivial | exact sim_refl _ | refine And.intro ?_ ?_)); done); (case hh => (((repeat' (first | exact rfl | exact trivial | exact sim_refl _ | exact simO_refl _ | exact subE_same rfl ren_scE | exact subE_same rfl ren_wlE | exact subE_same rfl ren_rlE | exact subE_same rfl ren_bwE | exact subE_wrE rfl rfl | exact subE_rdE rfl rfl | exact sim_wrP rfl | exact sim_rdP rfl | exact sim_bsV rfl | assumption | refine And.intro ?_ ?_)); done))); (case ok => (((repeat' (first | exact rfl | exact trivial | exact okE_scE | exact okE_wlE | exact okE_rlE | exact okE_bwE | exact okE_wrE rfl | exact okE_rdE rfl | exact okP_wrP (i := 13) rfl | exact okP_wrP (i := 15) rfl | exact okP_rdP (i := 17) rfl | exact okP_rdP (i := 19) rfl | exact okP_bsV rfl | refine And.intro ?_ ?_)); done))); (case iv => exact ⟨by (try dsimp only); omega, BInv.nx b b.hl b.hw b.o0 b.o1 b.o2 b.o3 (hi := by show i0 + j + 1 ≤ 10000; omega), h.ph2, fun q => by simp at q, fun q => by simp at q, fun q => by simp at q, fun _ => ⟨ep, sn, fl, cm, tm, c, rfl⟩⟩))
set_option maxHeartbeats 4000000 in
theorem tn30 (h : SInv3 R i0 x) (hi0 : i0 ≤ 101) (hj : (x.j : Int) < 8 * R) {r : RR} {ep nx sn fl tm : Int} (hp : x.ph = 0) (hc : x.z.c3 = some ⟨ep, nx, sn, fl, tm, none⟩) (hmu : muR R ⟨ep, nx, sn, fl, tm, none⟩ x.z.W + (x.j : Int) ≤ 8 * R) (hr : rStep R ⟨ep, nx, sn, fl, tm, none⟩ x.z.W x.z.st = r) (e0 : r.k = 0) (J : ∀ p, TJ3 p bb R N i0 o f Wb hd0 x ρ w I) : ∃ p, TG3 p bb R N o f Wb hd0 x ρ w I := by
  obtain ⟨j, ⟨W, st, kd, wd, vl, ch, stb, kdb, wdb, vlb, chb, f', n, c0, c1, c2, c3, p0, q0, p1, q1, p2, q2, p3, q3, d0, d1, d2, d3⟩, ph, ob, lw⟩ := x
  dsimp only at hp hj hc hmu hr
  subst hp
  subst hc
  have b := h.b
  have r1 := b.r1
  have r2 := b.r2
  have hw8 : IntKind.i64.wrap 8 = 8 := by decide
  have hR : IntKind.i64.wrap (8 * R) = 8 * R := wi64 (by omega) (by omega)
  have ewj : IntKind.i64.wrap ((j : Int) + 1) = ((j + 1 : Nat) : Int) := by rw [wi64 (by omega) (by omega)]; omega
  have ok : ROk R ⟨ep, nx, sn, fl, tm, none⟩ := b.o3
  have hl : W.length = 21 := b.hl
  have hl16 : 16 ≤ W.length := by omega
  have w0 : 0 ≤ W.getD 7 0 := (b.hw 7).1
  have w1 : W.getD 7 0 < 18446744073709551616 := (b.hw 7).2
  have s0 : 0 ≤ st := b.s0
  have s1 : st < 1000000 := by have h1 : st ≤ 100 + 2 * ((i0 + j : Nat) : Int) := b.s1; omega
  have aft := rAft (st := st) ok w0 w1
  have hdec := mr_dec (st := st) (W := W) ok w0 w1
  have hend := rEnd (st := st) (W := W) ok
  rw [hr] at aft hdec hend
  have hd1 := hdec (.inl e0)
  have okn := aft.go (.inl e0)
  obtain ⟨e4, e3, e2, e1, _⟩ := aft.lk e0
  rw [e3] at okn hd1
  have hp1 : 1 ≤ muR R ⟨ep, r.nx, r.sn, r.fl, r.tm, none⟩ W := mr_pos (W := W) okn
  have hd1 : muR R ⟨ep, r.nx, r.sn, r.fl, r.tm, none⟩ W + 1 ≤ muR R ⟨ep, nx, sn, fl, tm, none⟩ W := hd1
  refine ⟨⟨R, f, none, 0, 0, false, 0, w00, r⟩, ?_⟩
  have hX := hXTq ⟨R, f, none, 0, 0, false, 0, w00, r⟩
  dsimp only [TG3, ssT3, ssH3, s2H3]
  refine sx hX [] 4000 rfl (by (simp [-List.getD_eq_getElem?_getD, -List.length_eq_zero_iff, conjP])) ?_
  refine sx hX [.T] 4000 rfl (by (simp [-List.getD_eq_getElem?_getD, -List.length_eq_zero_iff, conjP, getH, HE.so, hw8, hR, hj, r1, r2, hl, w0, w1, s0, s1, ok, hr, e0, slV])) ?_
  (refine J _ ⟨j + 1, ⟨W, st + 1, 1, r.wd, r.vl, false, stb, kdb, wdb, vlb, chb, f', n, c0, c1, c2, some ⟨ep, r.nx, r.sn, r.fl, r.tm, none⟩, p0, q0, p1, q1, p2, q2, p3, q3, d0, d1, d2, d3⟩, 0, ob, lw⟩ ?iv rfl _ _ _ (sub_of [0, 1, 2, 3, 4, 5, 6, 7, 8, 9, 10, 11, 12, 13, 14, 15, 16, 17, 18, 61] rfl rfl rfl (by cases bb <;> rfl) ?tt ?hh (by (repeat' (first | exact rfl | exact trivial | exact sim_refl _ | refine And.intro ?_ ?_))) ?ok); (case tt => simp only [ewj]; (repeat' (first | exact rfl | exact trivial | exact sim_refl _ | refine And.intro ?_ ?_)); done); (case hh => (((repeat' (first | exact rfl | exact trivial | exact sim_refl _ | exact simO_refl _ | exact subE_same rfl ren_scE | exact subE_same rfl ren_wlE | exact subE_same rfl ren_rlE | exact subE_same rfl ren_bwE | exact subE_wrE rfl rfl | exact subE_rdE rfl rfl | exact sim_wrP rfl | exact sim_rdP rfl | exact sim_bsV rfl | assumption | refine And.intro ?_ ?_)); done))); (case ok => (((repeat' (first | exact rfl | exact trivial | exact okE_scE | exact okE_wlE | exact okE_rlE | exact okE_bwE | exact okE_wrE rfl | exact okE_rdE rfl | exact okP_wrP (i := 13) rfl | exact okP_wrP (i := 15) rfl | exact okP_rdP (i := 17) rfl | exact okP_rdP (i := 19) rfl | exact okP_bsV rfl | refine And.intro ?_ ?_)); done))); (case iv => exact ⟨by (try dsimp only); omega, BInv.nx b hl b.hw (b.o0) (b.o1) (b.o2) (okn) (hi := by show i0 + j + 1 ≤ 10000; omega), by (try dsimp only); omega, fun _ => ⟨_, rfl, by (try dsimp only); omega⟩, fun q => by simp at q, fun q => by simp at q, fun q => by simp at q⟩))
set_option maxHeartbeats 4000000 in
theorem tn31 (h : SInv3 R i0 x) (hi0 : i0 ≤ 101) (hj : (x.j : Int) < 8 * R) {r : RR} {ep nx sn fl tm : Int} (hp : x.ph = 0) (hc : x.z.c3 = some ⟨ep, nx, sn, fl, tm, none⟩) (hmu : muR R ⟨ep, nx, sn, fl, tm, none⟩ x.z.W + (x.j : Int) ≤ 8 * R) (hr : rStep R ⟨ep, nx, sn, fl, tm, none⟩ x.z.W x.z.st = r) (e0 : r.k = 1) (J : ∀ p, TJ3 p bb R N i0 o f Wb hd0 x ρ w I) : ∃ p, TG3 p bb R N o f Wb hd0 x ρ w I := by
  obtain ⟨j, ⟨W, st, kd, wd, vl, ch, stb, kdb, wdb, vlb, chb, f', n, c0, c1, c2, c3, p0, q0, p1, q1, p2, q2, p3, q3, d0, d1, d2, d3⟩, ph, ob, lw⟩ := x
  dsimp only at hp hj hc hmu hr
  subst hp
  subst hc
  have b := h.b
  have r1 := b.r1
  have r2 := b.r2
  have hw8 : IntKind.i64.wrap 8 = 8 := by decide
  have hR : IntKind.i64.wrap (8 * R) = 8 * R := wi64 (by omega) (by omega)
  have ewj : IntKind.i64.wrap ((j : Int) + 1) = ((j + 1 : Nat) : Int) := by rw [wi64 (by omega) (by omega)]; omega
  have ok : ROk R ⟨ep, nx, sn, fl, tm, none⟩ := b.o3
  have hl : W.length = 21 := b.hl
  have hl16 : 16 ≤ W.length := by omega
  have w0 : 0 ≤ W.getD 7 0 := (b.hw 7).1
  have w1 : W.getD 7 0 < 18446744073709551616 := (b.hw 7).2
  have s0 : 0 ≤ st := b.s0
  have s1 : st < 1000000 := by have h1 : st ≤ 100 + 2 * ((i0 + j : Nat) : Int) := b.s1; omega
  have aft := rAft (st := st) ok w0 w1
  have hdec := mr_dec (st := st) (W := W) ok w0 w1
  have hend := rEnd (st := st) (W := W) ok
  rw [hr] at aft hdec hend
  have hnx := hend (.inl e0)
  refine ⟨⟨R, f, none, 0, 0, false, 1, w00, r⟩, ?_⟩
  have hX := hXTq ⟨R, f, none, 0, 0, false, 1, w00, r⟩
  dsimp only [TG3, ssT3, ssH3, s2H3]
  refine sx hX [] 4000 rfl (by (simp [-List.getD_eq_getElem?_getD, -List.length_eq_zero_iff, conjP])) ?_
  refine sx hX [.T] 4000 rfl (by (simp [-List.getD_eq_getElem?_getD, -List.length_eq_zero_iff, conjP, getH, HE.so, hw8, hR, hj, r1, r2, hl, w0, w1, s0, s1, ok, hr, e0, slV])) ?_
  (simp only [hnx]; refine J _ ⟨j + 1, ⟨W, st + 1, 1, r.wd, r.vl, false, stb, kdb, wdb, vlb, chb, f', n, c0, c1, c2, none, p0, q0, p1, q1, p2, q2, p3, q3, d0, d1, d2, d3⟩, 1, rdO R ep 0 r.sn r.fl 0 r.tm (erO r.c) .nilslice, lw⟩ ?iv rfl _ _ _ (sub_of [0, 1, 2, 3, 4, 5, 6, 7, 8, 9, 10, 11, 12, 13, 14, 15, 16, 17, 18, 61] rfl rfl rfl (by cases bb <;> rfl) ?tt ?hh (by (repeat' (first | exact rfl | exact trivial | exact sim_refl _ | refine And.intro ?_ ?_))) ?ok); (case tt => simp only [ewj]; (repeat' (first | exact rfl | exact trivial | exact sim_refl _ | refine And.intro ?_ ?_)); done); (case hh => (((repeat' (first | exact rfl | exact trivial | exact sim_refl _ | exact simO_refl _ | exact subE_same rfl ren_scE | exact subE_same rfl ren_wlE | exact subE_same rfl ren_rlE | exact subE_same rfl ren_bwE | exact subE_wrE rfl rfl | exact subE_rdE rfl rfl | exact sim_wrP rfl | exact sim_rdP rfl | exact sim_bsV rfl | assumption | refine And.intro ?_ ?_)); done))); (case ok => (((repeat' (first | exact rfl | exact trivial | exact okE_scE | exact okE_wlE | exact okE_rlE | exact okE_bwE | exact okE_wrE rfl | exact okE_rdE rfl | exact okP_wrP (i := 13) rfl | exact okP_wrP (i := 15) rfl | exact okP_rdP (i := 17) rfl | exact okP_rdP (i := 19) rfl | exact okP_bsV rfl | refine And.intro ?_ ?_)); done))); (case iv => exact ⟨by (try dsimp only); omega, BInv.nx b hl b.hw (b.o0) (b.o1) (b.o2) (trivial) (hi := by show i0 + j + 1 ≤ 10000; omega), by (try dsimp only); omega, fun q => by simp at q, fun _ => ⟨_, _, _, _, _, _, rfl⟩, fun q => by simp at q, fun q => by simp at q⟩))
set_option maxHeartbeats 4000000 in
theorem tn33 (h : SInv3 R i0 x) (hi0 : i0 ≤ 101) (hj : (x.j : Int) < 8 * R) {r : RR} {ep nx sn fl tm : Int} (hp : x.ph = 0) (hc : x.z.c3 = some ⟨ep, nx, sn, fl, tm, none⟩) (hmu : muR R ⟨ep, nx, sn, fl, tm, none⟩ x.z.W + (x.j : Int) ≤ 8 * R) (hr : rStep R ⟨ep, nx, sn, fl, tm, none⟩ x.z.W x.z.st = r) (e0 : r.k = 3) (J : ∀ p, TJ3 p bb R N i0 o f Wb hd0 x ρ w I) : ∃ p, TG3 p bb R N o f Wb hd0 x ρ w I := by
  obtain ⟨j, ⟨W, st, kd, wd, vl, ch, stb, kdb, wdb, vlb, chb, f', n, c0, c1, c2, c3, p0, q0, p1, q1, p2, q2, p3, q3, d0, d1, d2, d3⟩, ph, ob, lw⟩ := x
  dsimp only at hp hj hc hmu hr
  subst hp
  subst hc
  have b := h.b
  have r1 := b.r1
  have r2 := b.r2
  have hw8 : IntKind.i64.wrap 8 = 8 := by decide
  have hR : IntKind.i64.wrap (8 * R) = 8 * R := wi64 (by omega) (by omega)
  have ewj : IntKind.i64.wrap ((j : Int) + 1) = ((j + 1 : Nat) : Int) := by rw [wi64 (by omega) (by omega)]; omega
  have ok : ROk R ⟨ep, nx, sn, fl, tm, none⟩ := b.o3
  have hl : W.length = 21 := b.hl
  have hl16 : 16 ≤ W.length := by omega
  have w0 : 0 ≤ W.getD 7 0 := (b.hw 7).1
  have w1 : W.getD 7 0 < 18446744073709551616 := (b.hw 7).2
  have s0 : 0 ≤ st := b.s0
  have s1 : st < 1000000 := by have h1 : st ≤ 100 + 2 * ((i0 + j : Nat) : Int) := b.s1; omega
  have aft := rAft (st := st) ok w0 w1
  have hdec := mr_dec (st := st) (W := W) ok w0 w1
  have hend := rEnd (st := st) (W := W) ok
  rw [hr] at aft hdec hend
  have hd1 := hdec (.inr (.inl e0))
  have okn := aft.go (.inr (.inl e0))
  obtain ⟨e4, e2, e1, _, _, e3, _⟩ := aft.wd e0
  rw [e3] at okn hd1
  have hp1 : 1 ≤ muR R ⟨ep, r.nx, r.sn, r.fl, r.tm, (some [r.vl])⟩ W := mr_pos (W := W) okn
  have hd1 : muR R ⟨ep, r.nx, r.sn, r.fl, r.tm, (some [r.vl])⟩ W + 1 ≤ muR R ⟨ep, nx, sn, fl, tm, none⟩ W := hd1
  refine ⟨⟨R, f, none, 0, 0, false, 3, w00, r⟩, ?_⟩
  have hX := hXTq ⟨R, f, none, 0, 0, false, 3, w00, r⟩
  dsimp only [TG3, ssT3, ssH3, s2H3]
  refine sx hX [] 4000 rfl (by (simp [-List.getD_eq_getElem?_getD, -List.length_eq_zero_iff, conjP])) ?_
  refine sx hX [.T] 4000 rfl (by (simp [-List.getD_eq_getElem?_getD, -List.length_eq_zero_iff, conjP, getH, HE.so, hw8, hR, hj, r1, r2, hl, w0, w1, s0, s1, ok, hr, e0, slV])) ?_
  (refine J _ ⟨j + 1, ⟨W, st + 1, 1, r.wd, r.vl, false, stb, kdb, wdb, vlb, chb, f', n, c0, c1, c2, some ⟨ep, r.nx, r.sn, r.fl, r.tm, (some [r.vl])⟩, p0, q0, p1, q1, p2, q2, p3, q3, d0, d1, d2, d3⟩, 0, ob, lw⟩ ?iv rfl _ _ _ (sub_of [0, 1, 2, 3, 4, 5, 6, 7, 8, 9, 10, 11, 12, 13, 14, 15, 16, 17, 18, 20] rfl rfl rfl (by cases bb <;> rfl) ?tt ?hh (by (repeat' (first | exact rfl | exact trivial | exact sim_refl _ | refine And.intro ?_ ?_))) ?ok); (case tt => simp only [ewj]; (repeat' (first | exact rfl | exact trivial | exact sim_refl _ | refine And.intro ?_ ?_)); done); (case hh => (((repeat' (first | exact rfl | exact trivial | exact sim_refl _ | exact simO_refl _ | exact subE_same rfl ren_scE | exact subE_same rfl ren_wlE | exact subE_same rfl ren_rlE | exact subE_same rfl ren_bwE | exact subE_wrE rfl rfl | exact subE_rdE rfl rfl | exact sim_wrP rfl | exact sim_rdP rfl | exact sim_bsV rfl | assumption | refine And.intro ?_ ?_)); done))); (case ok => (((repeat' (first | exact rfl | exact trivial | exact okE_scE | exact okE_wlE | exact okE_rlE | exact okE_bwE | exact okE_wrE rfl | exact okE_rdE rfl | exact okP_wrP (i := 13) rfl | exact okP_wrP (i := 15) rfl | exact okP_rdP (i := 17) rfl | exact okP_rdP (i := 19) rfl | exact okP_bsV rfl | refine And.intro ?_ ?_)); done))); (case iv => exact ⟨by (try dsimp only); omega, BInv.nx b hl b.hw (b.o0) (b.o1) (b.o2) (okn) (hi := by show i0 + j + 1 ≤ 10000; omega), by (try dsimp only); omega, fun _ => ⟨_, rfl, by (try dsimp only); omega⟩, fun q => by simp at q, fun q => by simp at q, fun q => by simp at q⟩))
set_option maxHeartbeats 4000000 in
theorem ts30 (h : SInv3 R i0 x) (hi0 : i0 ≤ 101) (hj : (x.j : Int) < 8 * R) {r : RR} {ep nx sn fl tm : Int} {l : List Int} (hp : x.ph = 0) (hc : x.z.c3 = some ⟨ep, nx, sn, fl, tm, some l⟩) (hmu : muR R ⟨ep, nx, sn, fl, tm, some l⟩ x.z.W + (x.j : Int) ≤ 8 * R) (hr : rStep R ⟨ep, nx, sn, fl, tm, some l⟩ x.z.W x.z.st = r) (e0 : r.k = 0) (J : ∀ p, TJ3 p bb R N i0 o f Wb hd0 x ρ w I) : ∃ p, TG3 p bb R N o f Wb hd0 x ρ w I := by
  obtain ⟨j, ⟨W, st, kd, wd, vl, ch, stb, kdb, wdb, vlb, chb, f', n, c0, c1, c2, c3, p0, q0, p1, q1, p2, q2, p3, q3, d0, d1, d2, d3⟩, ph, ob, lw⟩ := x
  dsimp only at hp hj hc hmu hr
  subst hp
  subst hc
  have b := h.b
  have r1 := b.r1
  have r2 := b.r2
  have hw8 : IntKind.i64.wrap 8 = 8 := by decide
  have hR : IntKind.i64.wrap (8 * R) = 8 * R := wi64 (by omega) (by omega)
  have ewj : IntKind.i64.wrap ((j : Int) + 1) = ((j + 1 : Nat) : Int) := by rw [wi64 (by omega) (by omega)]; omega
  have ok : ROk R ⟨ep, nx, sn, fl, tm, some l⟩ := b.o3
  have hl : W.length = 21 := b.hl
  have hl16 : 16 ≤ W.length := by omega
  have w0 : 0 ≤ W.getD 7 0 := (b.hw 7).1
  have w1 : W.getD 7 0 < 18446744073709551616 := (b.hw 7).2
  have s0 : 0 ≤ st := b.s0
  have s1 : st < 1000000 := by have h1 : st ≤ 100 + 2 * ((i0 + j : Nat) : Int) := b.s1; omega
  have aft := rAft (st := st) ok w0 w1
  have hdec := mr_dec (st := st) (W := W) ok w0 w1
  have hend := rEnd (st := st) (W := W) ok
  rw [hr] at aft hdec hend
  have hd1 := hdec (.inl e0)
  have okn := aft.go (.inl e0)
  obtain ⟨e4, e3, e2, e1, _⟩ := aft.lk e0
  rw [e3] at okn hd1
  have hp1 : 1 ≤ muR R ⟨ep, r.nx, r.sn, r.fl, r.tm, none⟩ W := mr_pos (W := W) okn
  have hd1 : muR R ⟨ep, r.nx, r.sn, r.fl, r.tm, none⟩ W + 1 ≤ muR R ⟨ep, nx, sn, fl, tm, some l⟩ W := hd1
  refine ⟨⟨R, f, none, 0, 0, false, 0, w00, r⟩, ?_⟩
  have hX := hXTq ⟨R, f, none, 0, 0, false, 0, w00, r⟩
  dsimp only [TG3, ssT3, ssH3, s2H3]
  refine sx hX [] 4000 rfl (by (simp [-List.getD_eq_getElem?_getD, -List.length_eq_zero_iff, conjP])) ?_
  refine sx hX [.T] 4000 rfl (by (simp [-List.getD_eq_getElem?_getD, -List.length_eq_zero_iff, conjP, getH, HE.so, hw8, hR, hj, r1, r2, hl, w0, w1, s0, s1, ok, hr, e0, slV])) ?_
  (refine J _ ⟨j + 1, ⟨W, st + 1, 1, r.wd, r.vl, false, stb, kdb, wdb, vlb, chb, f', n, c0, c1, c2, some ⟨ep, r.nx, r.sn, r.fl, r.tm, none⟩, p0, q0, p1, q1, p2, q2, p3, q3, d0, d1, d2, d3⟩, 0, ob, lw⟩ ?iv rfl _ _ _ (sub_of [0, 1, 2, 3, 4, 5, 6, 7, 8, 9, 10, 11, 12, 13, 14, 15, 16, 17, 18, 61] rfl rfl rfl (by cases bb <;> rfl) ?tt ?hh (by (repeat' (first | exact rfl | exact trivial | exact sim_refl _ | refine And.intro ?_ ?_))) ?ok); (case tt => simp only [ewj]; (repeat' (first | exact rfl | exact trivial | exact sim_refl _ | refine And.intro ?_ ?_)); done); (case hh => (((repeat' (first | exact rfl | exact trivial | exact sim_refl _ | exact simO_refl _ | exact subE_same rfl ren_scE | exact subE_same rfl ren_wlE | exact subE_same rfl ren_rlE | exact subE_same rfl ren_bwE | exact subE_wrE rfl rfl | exact subE_rdE rfl rfl | exact sim_wrP rfl | exact sim_rdP rfl | exact sim_bsV rfl | assumption | refine And.intro ?_ ?_)); done))); (case ok => (((repeat' (first | exact rfl | exact trivial | exact okE_scE | exact okE_wlE | exact okE_rlE | exact okE_bwE | exact okE_wrE rfl | exact okE_rdE rfl | exact okP_wrP (i := 13) rfl | exact okP_wrP (i := 15) rfl | exact okP_rdP (i := 17) rfl | exact okP_rdP (i := 19) rfl | exact okP_bsV rfl | refine And.intro ?_ ?_)); done))); (case iv => exact ⟨by (try dsimp only); omega, BInv.nx b hl b.hw (b.o0) (b.o1) (b.o2) (okn) (hi := by show i0 + j + 1 ≤ 10000; omega), by (try dsimp only); omega, fun _ => ⟨_, rfl, by (try dsimp only); omega⟩, fun q => by simp at q, fun q => by simp at q, fun q => by simp at q⟩))
set_option maxHeartbeats 4000000 in
theorem ts31 (h : SInv3 R i0 x) (hi0 : i0 ≤ 101) (hj : (x.j : Int) < 8 * R) {r : RR} {ep nx sn fl tm : Int} {l : List Int} (hp : x.ph = 0) (hc : x.z.c3 = some ⟨ep, nx, sn, fl, tm, some l⟩) (hmu : muR R ⟨ep, nx, sn, fl, tm, some l⟩ x.z.W + (x.j : Int) ≤ 8 * R) (hr : rStep R ⟨ep, nx, sn, fl, tm, some l⟩ x.z.W x.z.st = r) (e0 : r.k = 1) (J : ∀ p, TJ3 p bb R N i0 o f Wb hd0 x ρ w I) : ∃ p, TG3 p bb R N o f Wb hd0 x ρ w I := by
  obtain ⟨j, ⟨W, st, kd, wd, vl, ch, stb, kdb, wdb, vlb, chb, f', n, c0, c1, c2, c3, p0, q0, p1, q1, p2, q2, p3, q3, d0, d1, d2, d3⟩, ph, ob, lw⟩ := x
  dsimp only at hp hj hc hmu hr
  subst hp
  subst hc
  have b := h.b
  have r1 := b.r1
  have r2 := b.r2
  have hw8 : IntKind.i64.wrap 8 = 8 := by decide
  have hR : IntKind.i64.wrap (8 * R) = 8 * R := wi64 (by omega) (by omega)
  have ewj : IntKind.i64.wrap ((j : Int) + 1) = ((j + 1 : Nat) : Int) := by rw [wi64 (by omega) (by omega)]; omega
  have ok : ROk R ⟨ep, nx, sn, fl, tm, some l⟩ := b.o3
  have hl : W.length = 21 := b.hl
  have hl16 : 16 ≤ W.length := by omega
  have w0 : 0 ≤ W.getD 7 0 := (b.hw 7).1
  have w1 : W.getD 7 0 < 18446744073709551616 := (b.hw 7).2
  have s0 : 0 ≤ st := b.s0
  have s1 : st < 1000000 := by have h1 : st ≤ 100 + 2 * ((i0 + j : Nat) : Int) := b.s1; omega
  have aft := rAft (st := st) ok w0 w1
  have hdec := mr_dec (st := st) (W := W) ok w0 w1
  have hend := rEnd (st := st) (W := W) ok
  rw [hr] at aft hdec hend
  have hnx := hend (.inl e0)
  refine ⟨⟨R, f, none, 0, 0, false, 1, w00, r⟩, ?_⟩
  have hX := hXTq ⟨R, f, none, 0, 0, false, 1, w00, r⟩
  dsimp only [TG3, ssT3, ssH3, s2H3]
  refine sx hX [] 4000 rfl (by (simp [-List.getD_eq_getElem?_getD, -List.length_eq_zero_iff, conjP])) ?_
  refine sx hX [.T] 4000 rfl (by (simp [-List.getD_eq_getElem?_getD, -List.length_eq_zero_iff, conjP, getH, HE.so, hw8, hR, hj, r1, r2, hl, w0, w1, s0, s1, ok, hr, e0, slV])) ?_
  (simp only [hnx]; refine J _ ⟨j + 1, ⟨W, st + 1, 1, r.wd, r.vl, false, stb, kdb, wdb, vlb, chb, f', n, c0, c1, c2, none, p0, q0, p1, q1, p2, q2, p3, q3, d0, d1, d2, d3⟩, 1, rdO R ep 0 r.sn r.fl 0 r.tm (erO r.c) .nilslice, lw⟩ ?iv rfl _ _ _ (sub_of [0, 1, 2, 3, 4, 5, 6, 7, 8, 9, 10, 11, 12, 13, 14, 15, 16, 17, 18, 61] rfl rfl rfl (by cases bb <;> rfl) ?tt ?hh (by (repeat' (first | exact rfl | exact trivial | exact sim_refl _ | refine And.intro ?_ ?_))) ?ok); (case tt => simp only [ewj]; (repeat' (first | exact rfl | exact trivial | exact sim_refl _ | refine And.intro ?_ ?_)); done); (case hh => (((repeat' (first | exact rfl | exact trivial | exact sim_refl _ | exact simO_refl _ | exact subE_same rfl ren_scE | exact subE_same rfl ren_wlE | exact subE_same rfl ren_rlE | exact subE_same rfl ren_bwE | exact subE_wrE rfl rfl | exact subE_rdE rfl rfl | exact sim_wrP rfl | exact sim_rdP rfl | exact sim_bsV rfl | assumption | refine And.intro ?_ ?_)); done))); (case ok => (((repeat' (first | exact rfl | exact trivial | exact okE_scE | exact okE_wlE | exact okE_rlE | exact okE_bwE | exact okE_wrE rfl | exact okE_rdE rfl | exact okP_wrP (i := 13) rfl | exact okP_wrP (i := 15) rfl | exact okP_rdP (i := 17) rfl | exact okP_rdP (i := 19) rfl | exact okP_bsV rfl | refine And.intro ?_ ?_)); done))); (case iv => exact ⟨by (try dsimp only); omega, BInv.nx b hl b.hw (b.o0) (b.o1) (b.o2) (trivial) (hi := by show i0 + j + 1 ≤ 10000; omega), by (try dsimp only); omega, fun q => by simp at q, fun _ => ⟨_, _, _, _, _, _, rfl⟩, fun q => by simp at q, fun q => by simp at q⟩))
set_option maxHeartbeats 4000000 in
theorem ts32 (h : SInv3 R i0 x) (hi0 : i0 ≤ 101) (hj : (x.j : Int) < 8 * R) {r : RR} {ep nx sn fl tm : Int} {l : List Int} (hp : x.ph = 0) (hc : x.z.c3 = some ⟨ep, nx, sn, fl, tm, some l⟩) (hmu : muR R ⟨ep, nx, sn, fl, tm, some l⟩ x.z.W + (x.j : Int) ≤ 8 * R) (hr : rStep R ⟨ep, nx, sn, fl, tm, some l⟩ x.z.W x.z.st = r) (e0 : r.k = 2) (J : ∀ p, TJ3 p bb R N i0 o f Wb hd0 x ρ w I) : ∃ p, TG3 p bb R N o f Wb hd0 x ρ w I := by
  obtain ⟨j, ⟨W, st, kd, wd, vl, ch, stb, kdb, wdb, vlb, chb, f', n, c0, c1, c2, c3, p0, q0, p1, q1, p2, q2, p3, q3, d0, d1, d2, d3⟩, ph, ob, lw⟩ := x
  dsimp only at hp hj hc hmu hr
  subst hp
  subst hc
  have b := h.b
  have r1 := b.r1
  have r2 := b.r2
  have hw8 : IntKind.i64.wrap 8 = 8 := by decide
  have hR : IntKind.i64.wrap (8 * R) = 8 * R := wi64 (by omega) (by omega)
  have ewj : IntKind.i64.wrap ((j : Int) + 1) = ((j + 1 : Nat) : Int) := by rw [wi64 (by omega) (by omega)]; omega
  have ok : ROk R ⟨ep, nx, sn, fl, tm, some l⟩ := b.o3
  have hl : W.length = 21 := b.hl
  have hl16 : 16 ≤ W.length := by omega
  have w0 : 0 ≤ W.getD 7 0 := (b.hw 7).1
  have w1 : W.getD 7 0 < 18446744073709551616 := (b.hw 7).2
  have s0 : 0 ≤ st := b.s0
  have s1 : st < 1000000 := by have h1 : st ≤ 100 + 2 * ((i0 + j : Nat) : Int) := b.s1; omega
  have aft := rAft (st := st) ok w0 w1
  have hdec := mr_dec (st := st) (W := W) ok w0 w1
  have hend := rEnd (st := st) (W := W) ok
  rw [hr] at aft hdec hend
  have hnx := hend (.inr (.inl e0))
  refine ⟨⟨R, f, none, 0, 0, false, 2, w00, r⟩, ?_⟩
  have hX := hXTq ⟨R, f, none, 0, 0, false, 2, w00, r⟩
  dsimp only [TG3, ssT3, ssH3, s2H3]
  refine sx hX [] 4000 rfl (by (simp [-List.getD_eq_getElem?_getD, -List.length_eq_zero_iff, conjP])) ?_
  refine sx hX [.T] 4000 rfl (by (simp [-List.getD_eq_getElem?_getD, -List.length_eq_zero_iff, conjP, getH, HE.so, hw8, hR, hj, r1, r2, hl, w0, w1, s0, s1, ok, hr, e0, slV])) ?_
  (simp only [hnx]; refine J _ ⟨j + 1, ⟨W, st + 1, 1, r.wd, r.vl, false, stb, kdb, wdb, vlb, chb, f', n, c0, c1, c2, none, p0, q0, p1, q1, p2, q2, p3, q3, d0, d1, d2, d3⟩, 2, rdO R ep 0 r.sn r.fl 0 r.tm .niliface (.sbuf 19 1 0 l.length), l⟩ ?iv rfl _ _ _ (sub_of [0, 1, 2, 3, 4, 5, 6, 7, 8, 9, 10, 11, 12, 13, 14, 15, 16, 17, 18, 19] rfl rfl rfl (by cases bb <;> rfl) ?tt ?hh (by (repeat' (first | exact rfl | exact trivial | exact sim_refl _ | refine And.intro ?_ ?_))) ?ok); (case tt => simp only [ewj]; (repeat' (first | exact rfl | exact trivial | exact sim_refl _ | refine And.intro ?_ ?_)); done); (case hh => (((repeat' (first | exact rfl | exact trivial | exact sim_refl _ | exact simO_refl _ | exact subE_same rfl ren_scE | exact subE_same rfl ren_wlE | exact subE_same rfl ren_rlE | exact subE_same rfl ren_bwE | exact subE_wrE rfl rfl | exact subE_rdE rfl rfl | exact sim_wrP rfl | exact sim_rdP rfl | exact sim_bsV rfl | assumption | refine And.intro ?_ ?_)); done))); (case ok => (((repeat' (first | exact rfl | exact trivial | exact okE_scE | exact okE_wlE | exact okE_rlE | exact okE_bwE | exact okE_wrE rfl | exact okE_rdE rfl | exact okP_wrP (i := 13) rfl | exact okP_wrP (i := 15) rfl | exact okP_rdP (i := 17) rfl | exact okP_rdP (i := 19) rfl | exact okP_bsV rfl | refine And.intro ?_ ?_)); done))); (case iv => exact ⟨by (try dsimp only); omega, BInv.nx b hl b.hw (b.o0) (b.o1) (b.o2) (trivial) (hi := by show i0 + j + 1 ≤ 10000; omega), by (try dsimp only); omega, fun q => by simp at q, fun q => by simp at q, fun _ => ⟨_, _, _, _, _, rfl⟩, fun q => by simp at q⟩))
set_option maxHeartbeats 4000000 in
theorem ts33 (h : SInv3 R i0 x) (hi0 : i0 ≤ 101) (hj : (x.j : Int) < 8 * R) {r : RR} {ep nx sn fl tm : Int} {l : List Int} (hp : x.ph = 0) (hc : x.z.c3 = some ⟨ep, nx, sn, fl, tm, some l⟩) (hmu : muR R ⟨ep, nx, sn, fl, tm, some l⟩ x.z.W + (x.j : Int) ≤ 8 * R) (hr : rStep R ⟨ep, nx, sn, fl, tm, some l⟩ x.z.W x.z.st = r) (e0 : r.k = 3) (J : ∀ p, TJ3 p bb R N i0 o f Wb hd0 x ρ w I) : ∃ p, TG3 p bb R N o f Wb hd0 x ρ w I := by
  obtain ⟨j, ⟨W, st, kd, wd, vl, ch, stb, kdb, wdb, vlb, chb, f', n, c0, c1, c2, c3, p0, q0, p1, q1, p2, q2, p3, q3, d0, d1, d2, d3⟩, ph, ob, lw⟩ := x
  dsimp only at hp hj hc hmu hr
  subst hp
  subst hc
  have b := h.b
  have r1 := b.r1
  have r2 := b.r2
  have hw8 : IntKind.i64.wrap 8 = 8 := by decide
  have hR : IntKind.i64.wrap (8 * R) = 8 * R := wi64 (by omega) (by omega)
  have ewj : IntKind.i64.wrap ((j : Int) + 1) = ((j + 1 : Nat) : Int) := by rw [wi64 (by omega) (by omega)]; omega
  have ok : ROk R ⟨ep, nx, sn, fl, tm, some l⟩ := b.o3
  have hl : W.length = 21 := b.hl
  have hl16 : 16 ≤ W.length := by omega
  have w0 : 0 ≤ W.getD 7 0 := (b.hw 7).1
  have w1 : W.getD 7 0 < 18446744073709551616 := (b.hw 7).2
  have s0 : 0 ≤ st := b.s0
  have s1 : st < 1000000 := by have h1 : st ≤ 100 + 2 * ((i0 + j : Nat) : Int) := b.s1; omega
  have aft := rAft (st := st) ok w0 w1
  have hdec := mr_dec (st := st) (W := W) ok w0 w1
  have hend := rEnd (st := st) (W := W) ok
  rw [hr] at aft hdec hend
  have hd1 := hdec (.inr (.inl e0))
  have hwl : (l ++ [r.vl]).length = l.length + 1 := by simp
  have hwr := hwl.symm
  have okn := aft.go (.inr (.inl e0))
  obtain ⟨e4, e2, e1, _, _, e3, _⟩ := aft.wd e0
  rw [e3] at okn hd1
  have hp1 : 1 ≤ muR R ⟨ep, r.nx, r.sn, r.fl, r.tm, (some (l ++ [r.vl]))⟩ W := mr_pos (W := W) okn
  have hd1 : muR R ⟨ep, r.nx, r.sn, r.fl, r.tm, (some (l ++ [r.vl]))⟩ W + 1 ≤ muR R ⟨ep, nx, sn, fl, tm, some l⟩ W := hd1
  refine ⟨⟨R, f, none, 0, 0, false, 3, w00, r⟩, ?_⟩
  have hX := hXTq ⟨R, f, none, 0, 0, false, 3, w00, r⟩
  dsimp only [TG3, ssT3, ssH3, s2H3]
  refine sx hX [] 4000 rfl (by (simp [-List.getD_eq_getElem?_getD, -List.length_eq_zero_iff, conjP])) ?_
  refine sx hX [.T] 4000 rfl (by (simp [-List.getD_eq_getElem?_getD, -List.length_eq_zero_iff, conjP, getH, HE.so, hw8, hR, hj, r1, r2, hl, w0, w1, s0, s1, ok, hr, e0, slV])) ?_
  (refine J _ ⟨j + 1, ⟨W, st + 1, 1, r.wd, r.vl, false, stb, kdb, wdb, vlb, chb, f', n, c0, c1, c2, some ⟨ep, r.nx, r.sn, r.fl, r.tm, (some (l ++ [r.vl]))⟩, p0, q0, p1, q1, p2, q2, p3, q3, d0, d1, d2, d3⟩, 0, ob, lw⟩ ?iv rfl _ _ _ (sub_of [0, 1, 2, 3, 4, 5, 6, 7, 8, 9, 10, 11, 12, 13, 14, 15, 16, 17, 18, 20] rfl rfl rfl (by cases bb <;> rfl) ?tt ?hh (by (repeat' (first | exact rfl | exact trivial | exact sim_refl _ | refine And.intro ?_ ?_))) ?ok); (case tt => simp only [ewj]; (repeat' (first | exact rfl | exact trivial | exact sim_refl _ | refine And.intro ?_ ?_)); done); (case hh => (((repeat' (first | exact rfl | exact trivial | exact sim_refl _ | exact simO_refl _ | exact subE_same rfl ren_scE | exact subE_same rfl ren_wlE | exact subE_same rfl ren_rlE | exact subE_same rfl ren_bwE | exact subE_wrE rfl rfl | exact subE_rdE rfl rfl | exact sim_wrP rfl | exact sim_rdP rfl | exact sim_bsV rfl | assumption | refine And.intro ?_ ?_)); done))); (case ok => (((repeat' (first | exact rfl | exact trivial | exact okE_scE | exact okE_wlE | exact okE_rlE | exact okE_bwE | exact okE_wrE rfl | exact okE_rdE rfl | exact okP_wrP (i := 13) rfl | exact okP_wrP (i := 15) rfl | exact okP_rdP (i := 17) rfl | exact okP_rdP (i := 19) rfl | exact okP_bsV rfl | refine And.intro ?_ ?_)); done))); (case iv => exact ⟨by (try dsimp only); omega, BInv.nx b hl b.hw (b.o0) (b.o1) (b.o2) (okn) (hi := by show i0 + j + 1 ≤ 10000; omega), by (try dsimp only); omega, fun _ => ⟨_, rfl, by (try dsimp only); omega⟩, fun q => by simp at q, fun q => by simp at q, fun q => by simp at q⟩))
set_option maxHeartbeats 4000000 in
theorem ts34 (h : SInv3 R i0 x) (hi0 : i0 ≤ 101) (hj : (x.j : Int) < 8 * R) {r : RR} {ep nx sn fl tm : Int} {l : List Int} (hp : x.ph = 0) (hc : x.z.c3 = some ⟨ep, nx, sn, fl, tm, some l⟩) (hmu : muR R ⟨ep, nx, sn, fl, tm, some l⟩ x.z.W + (x.j : Int) ≤ 8 * R) (hr : rStep R ⟨ep, nx, sn, fl, tm, some l⟩ x.z.W x.z.st = r) (e0 : r.k = 4) (J : ∀ p, TJ3 p bb R N i0 o f Wb hd0 x ρ w I) : ∃ p, TG3 p bb R N o f Wb hd0 x ρ w I := by
  obtain ⟨j, ⟨W, st, kd, wd, vl, ch, stb, kdb, wdb, vlb, chb, f', n, c0, c1, c2, c3, p0, q0, p1, q1, p2, q2, p3, q3, d0, d1, d2, d3⟩, ph, ob, lw⟩ := x
  dsimp only at hp hj hc hmu hr
  subst hp
  subst hc
  have b := h.b
  have r1 := b.r1
  have r2 := b.r2
  have hw8 : IntKind.i64.wrap 8 = 8 := by decide
  have hR : IntKind.i64.wrap (8 * R) = 8 * R := wi64 (by omega) (by omega)
  have ewj : IntKind.i64.wrap ((j : Int) + 1) = ((j + 1 : Nat) : Int) := by rw [wi64 (by omega) (by omega)]; omega
  have ok : ROk R ⟨ep, nx, sn, fl, tm, some l⟩ := b.o3
  have hl : W.length = 21 := b.hl
  have hl16 : 16 ≤ W.length := by omega
  have w0 : 0 ≤ W.getD 7 0 := (b.hw 7).1
  have w1 : W.getD 7 0 < 18446744073709551616 := (b.hw 7).2
  have s0 : 0 ≤ st := b.s0
  have s1 : st < 1000000 := by have h1 : st ≤ 100 + 2 * ((i0 + j : Nat) : Int) := b.s1; omega
  have aft := rAft (st := st) ok w0 w1
  have hdec := mr_dec (st := st) (W := W) ok w0 w1
  have hend := rEnd (st := st) (W := W) ok
  rw [hr] at aft hdec hend
  have hd1 := hdec (.inr (.inr e0))
  have okn := aft.go (.inr (.inr e0))
  obtain ⟨e4, e3, e1, e2⟩ := aft.fa (.inl e0)
  rw [e2] at okn hd1
  have hp1 : 1 ≤ muR R ⟨ep, r.nx, r.sn, r.fl, r.tm, (some l)⟩ W := mr_pos (W := W) okn
  have hd1 : muR R ⟨ep, r.nx, r.sn, r.fl, r.tm, (some l)⟩ W + 1 ≤ muR R ⟨ep, nx, sn, fl, tm, some l⟩ W := hd1
  refine ⟨⟨R, f, none, 0, 0, false, 4, w00, r⟩, ?_⟩
  have hX := hXTq ⟨R, f, none, 0, 0, false, 4, w00, r⟩
  dsimp only [TG3, ssT3, ssH3, s2H3]
  refine sx hX [] 4000 rfl (by (simp [-List.getD_eq_getElem?_getD, -List.length_eq_zero_iff, conjP])) ?_
  refine sx hX [.T] 4000 rfl (by (simp [-List.getD_eq_getElem?_getD, -List.length_eq_zero_iff, conjP, getH, HE.so, hw8, hR, hj, r1, r2, hl, w0, w1, s0, s1, ok, hr, e0, slV])) ?_
  (refine J _ ⟨j + 1, ⟨W, st + 1, 1, r.wd, r.vl, false, stb, kdb, wdb, vlb, chb, f', n, c0, c1, c2, some ⟨ep, r.nx, r.sn, r.fl, r.tm, (some l)⟩, p0, q0, p1, q1, p2, q2, p3, q3, d0, d1, d2, d3⟩, 0, ob, lw⟩ ?iv rfl _ _ _ (sub_of [0, 1, 2, 3, 4, 5, 6, 7, 8, 9, 10, 11, 12, 13, 14, 15, 16, 17, 18, 19] rfl rfl rfl (by cases bb <;> rfl) ?tt ?hh (by (repeat' (first | exact rfl | exact trivial | exact sim_refl _ | refine And.intro ?_ ?_))) ?ok); (case tt => simp only [ewj]; (repeat' (first | exact rfl | exact trivial | exact sim_refl _ | refine And.intro ?_ ?_)); done); (case hh => (((repeat' (first | exact rfl | exact trivial | exact sim_refl _ | exact simO_refl _ | exact subE_same rfl ren_scE | exact subE_same rfl ren_wlE | exact subE_same rfl ren_rlE | exact subE_same rfl ren_bwE | exact subE_wrE rfl rfl | exact subE_rdE rfl rfl | exact sim_wrP rfl | exact sim_rdP rfl | exact sim_bsV rfl | assumption | refine And.intro ?_ ?_)); done))); (case ok => (((repeat' (first | exact rfl | exact trivial | exact okE_scE | exact okE_wlE | exact okE_rlE | exact okE_bwE | exact okE_wrE rfl | exact okE_rdE rfl | exact okP_wrP (i := 13) rfl | exact okP_wrP (i := 15) rfl | exact okP_rdP (i := 17) rfl | exact okP_rdP (i := 19) rfl | exact okP_bsV rfl | refine And.intro ?_ ?_)); done))); (case iv => exact ⟨by (try dsimp only); omega, BInv.nx b hl b.hw (b.o0) (b.o1) (b.o2) (okn) (hi := by show i0 + j + 1 ≤ 10000; omega), by (try dsimp only); omega, fun _ => ⟨_, rfl, by (try dsimp only); omega⟩, fun q => by simp at q, fun q => by simp at q, fun q => by simp at q⟩))
set_option maxHeartbeats 4000000 in
theorem ts35 (h : SInv3 R i0 x) (hi0 : i0 ≤ 101) (hj : (x.j : Int) < 8 * R) {r : RR} {ep nx sn fl tm : Int} {l : List Int} (hp : x.ph = 0) (hc : x.z.c3 = some ⟨ep, nx, sn, fl, tm, some l⟩) (hmu : muR R ⟨ep, nx, sn, fl, tm, some l⟩ x.z.W + (x.j : Int) ≤ 8 * R) (hr : rStep R ⟨ep, nx, sn, fl, tm, some l⟩ x.z.W x.z.st = r) (e0 : r.k = 5) (J : ∀ p, TJ3 p bb R N i0 o f Wb hd0 x ρ w I) : ∃ p, TG3 p bb R N o f Wb hd0 x ρ w I := by
  obtain ⟨j, ⟨W, st, kd, wd, vl, ch, stb, kdb, wdb, vlb, chb, f', n, c0, c1, c2, c3, p0, q0, p1, q1, p2, q2, p3, q3, d0, d1, d2, d3⟩, ph, ob, lw⟩ := x
  dsimp only at hp hj hc hmu hr
  subst hp
  subst hc
  have b := h.b
  have r1 := b.r1
  have r2 := b.r2
  have hw8 : IntKind.i64.wrap 8 = 8 := by decide
  have hR : IntKind.i64.wrap (8 * R) = 8 * R := wi64 (by omega) (by omega)
  have ewj : IntKind.i64.wrap ((j : Int) + 1) = ((j + 1 : Nat) : Int) := by rw [wi64 (by omega) (by omega)]; omega
  have ok : ROk R ⟨ep, nx, sn, fl, tm, some l⟩ := b.o3
  have hl : W.length = 21 := b.hl
  have hl16 : 16 ≤ W.length := by omega
  have w0 : 0 ≤ W.getD 7 0 := (b.hw 7).1
  have w1 : W.getD 7 0 < 18446744073709551616 := (b.hw 7).2
  have s0 : 0 ≤ st := b.s0
  have s1 : st < 1000000 := by have h1 : st ≤ 100 + 2 * ((i0 + j : Nat) : Int) := b.s1; omega
  have aft := rAft (st := st) ok w0 w1
  have hdec := mr_dec (st := st) (W := W) ok w0 w1
  have hend := rEnd (st := st) (W := W) ok
  rw [hr] at aft hdec hend
  have hnx := hend (.inr (.inr e0))
  refine ⟨⟨R, f, none, 0, 0, false, 5, w00, r⟩, ?_⟩
  have hX := hXTq ⟨R, f, none, 0, 0, false, 5, w00, r⟩
  dsimp only [TG3, ssT3, ssH3, s2H3]
  refine sx hX [] 4000 rfl (by (simp [-List.getD_eq_getElem?_getD, -List.length_eq_zero_iff, conjP])) ?_
  refine sx hX [.T] 4000 rfl (by (simp [-List.getD_eq_getElem?_getD, -List.length_eq_zero_iff, conjP, getH, HE.so, hw8, hR, hj, r1, r2, hl, w0, w1, s0, s1, ok, hr, e0, slV])) ?_
  (simp only [hnx]; refine J _ ⟨j + 1, ⟨W, st + 1, 1, r.wd, r.vl, false, stb, kdb, wdb, vlb, chb, f', n, c0, c1, c2, none, p0, q0, p1, q1, p2, q2, p3, q3, d0, d1, d2, d3⟩, 3, rdO R ep 0 r.sn r.fl 0 r.tm (erO r.c) (.sbuf 19 1 0 l.length), l⟩ ?iv rfl _ _ _ (sub_of [0, 1, 2, 3, 4, 5, 6, 7, 8, 9, 10, 11, 12, 13, 14, 15, 16, 17, 18, 19] rfl rfl rfl (by cases bb <;> rfl) ?tt ?hh (by (repeat' (first | exact rfl | exact trivial | exact sim_refl _ | refine And.intro ?_ ?_))) ?ok); (case tt => simp only [ewj]; (repeat' (first | exact rfl | exact trivial | exact sim_refl _ | refine And.intro ?_ ?_)); done); (case hh => (((repeat' (first | exact rfl | exact trivial | exact sim_refl _ | exact simO_refl _ | exact subE_same rfl ren_scE | exact subE_same rfl ren_wlE | exact subE_same rfl ren_rlE | exact subE_same rfl ren_bwE | exact subE_wrE rfl rfl | exact subE_rdE rfl rfl | exact sim_wrP rfl | exact sim_rdP rfl | exact sim_bsV rfl | assumption | refine And.intro ?_ ?_)); done))); (case ok => (((repeat' (first | exact rfl | exact trivial | exact okE_scE | exact okE_wlE | exact okE_rlE | exact okE_bwE | exact okE_wrE rfl | exact okE_rdE rfl | exact okP_wrP (i := 13) rfl | exact okP_wrP (i := 15) rfl | exact okP_rdP (i := 17) rfl | exact okP_rdP (i := 19) rfl | exact okP_bsV rfl | refine And.intro ?_ ?_)); done))); (case iv => exact ⟨by (try dsimp only); omega, BInv.nx b hl b.hw (b.o0) (b.o1) (b.o2) (trivial) (hi := by show i0 + j + 1 ≤ 10000; omega), by (try dsimp only); omega, fun q => by simp at q, fun q => by simp at q, fun q => by simp at q, fun _ => ⟨_, _, _, _, _, _, rfl⟩⟩))
end
end Go.Proofs.YtmghcelohnlceaaGreatDoor

