/- SmallAlone: client 2's turns. -/
import Derived.Test.YtmghcelohnlceaaGreatDoorAloneTurnA
namespace Go.Proofs.YtmghcelohnlceaaGreatDoor
open Go Go.Hx
set_option maxRecDepth 8000
section
variable {R q : Int} {N cap : Nat} {o : Nat → Int × Int} {x : AS} {ρ : Nat → Nat × Nat} {w : World} {I : Act → World → Prop}
abbrev AJ2 (p : TP) (R q : Int) (N cap : Nat) (o : Nat → Int × Int) (x : AS) (ρ : Nat → Nat × Nat) (w : World) (I : Act → World → Prop) : Prop :=
  ∀ x', AInv R N x' → x'.i = x.i + 1 → ∀ cs T H, Sub (FEnv Tryz.prog (XTu p).TE (hXTu p).te Tryz.f3 Tryz.f3.ntmps [.obj (.rows N 2 (actR o)), pinE RTV] (Is .tt [.obj (.rows N 2 (actR o)), pinE RTV]) ρ w) T H (alT N cap q x') (alH N o R x') →
    SS (hXTu p) (At ρ w) (Is .tt [.obj (.rows N 2 (actR o)), pinE RTV]) ⟨cs, [], Tryz.f3, Tryz.f3.ntmps, [.obj (.rows N 2 (actR o)), pinE RTV], downLp (contF Tryz.f3 6 [I]), T, H⟩
abbrev AG2 (p : TP) (R q : Int) (N cap : Nat) (o : Nat → Int × Int) (x : AS) (ρ : Nat → Nat × Nat) (w : World) (I : Act → World → Prop) : Prop :=
  SS (hXTu p) (At ρ w) (Is .tt [.obj (.rows N 2 (actR o)), pinE RTV]) ⟨[], [], Tryz.f3, Tryz.f3.ntmps, [.obj (.rows N 2 (actR o)), pinE RTV], contF Tryz.f3 6 [I], alT N cap q x, alH N o R x⟩

set_option maxHeartbeats 4000000 in
theorem ar2i0 (h : AInv R N x) (hin : x.i < N) (hi : x.i < 100) (ha : a3 (o x.i).1 = 2) (hb : bkB (o x.i).1 (o x.i).2 (hdO x.z.c0) (hdO x.z.c1) = false) {r : RR} (hc : x.z.c2 = none) (hr : rStep R ⟨epW (x.z.W.getD 7 0), 1, 0, 0, 0, none⟩ x.z.W x.z.st = r) (e0 : r.k = 0)
    (J : ∀ p, AJ2 p R q N cap o x ρ w I) : ∃ p, AG2 p R q N cap o x ρ w I := by
  have F := h.facts hin hi
  obtain ⟨i, ⟨W, st, kd, wd, vl, ch, stb, kdb, wdb, vlb, chb, f, n, c0, c1, c2, c3, p0, q0, p1, q1, p2, q2, p3, q3, d0, d1, d2, d3⟩⟩ := x
  dsimp only at hin hi ha hb hc hr F
  subst hc
  have b := h.b
  have m := h.m
  obtain ⟨hin1, hi1, ewi, r1, r2, hl, hl16, w0, w1, s0, s1, n0, n1⟩ := F
  have n2 : n < 1000000 := by omega
  have hcm := a3_cases (o i).2
  have ok : ROk R ⟨epW (W.getD 7 0), 1, 0, 0, 0, none⟩ := rok_new r1
  have aft := rAft (st := st) ok w0 w1
  rw [hr] at aft
  have hLn := hl
  have hLr := hl.symm
  have hWn := b.hw
  have okn := aft.go (.inl e0)
  obtain ⟨e4, e3, e2, e1, _⟩ := aft.lk e0
  rw [e3] at okn
  refine ⟨⟨f, c0, c1, false, 2, true, 0, w00, r⟩, ?_⟩
  have hX := hXTu ⟨f, c0, c1, false, 2, true, 0, w00, r⟩
  dsimp only [AG2, alT, alH, wdH]
  refine sxb hX [.r 9] [] 4000 rfl (by first | exact trivial | simp [conjP]) ?_
  refine sxb hX [.r 9] [.T, .T] 4000 rfl (by simp [conjP, hin, hin1, hi1, hb]) ?_
  simp only [Int.toNat_natCast, ha]
  refine sx hX [] 4000 rfl (by (simp [-List.getD_eq_getElem?_getD, -List.length_eq_zero_iff, conjP] <;> (first | omega | ((repeat' (refine And.intro ?_ ?_)) <;> (first | omega | exact decide_eq_false (by omega) | exact decide_eq_true (by omega)))))) ?_
  refine sx hX [.F] 4000 rfl (by (simp [-List.getD_eq_getElem?_getD, -List.length_eq_zero_iff, conjP, getH, HE.so, hin, hin1, r1, r2, hl, w0, w1, s0, s1, rdP, ok, hr, e0] <;> (first | omega | ((repeat' (refine And.intro ?_ ?_)) <;> (first | omega | exact decide_eq_false (by omega) | exact decide_eq_true (by omega)))))) ?_
  (refine ss_raw hX 10 3 rfl rfl fun v => ?_; refine J _ ⟨i + 1, ⟨W, st + 1, 1, r.wd, r.vl, false, stb, kdb, wdb, vlb, chb, true, n, c0, c1, some ⟨(epW (W.getD 7 0)), r.nx, r.sn, r.fl, r.tm, none⟩, c3, p0, q0, p1, q1, p2, v, p3, q3, d0, d1, d2, d3⟩⟩ ?iv rfl _ _ _ (sub_of [0, 1, 2, 3, 4, 5, 22, 7, 8, 9, 10, 11, 12, 13, 14, 15, 20, 61, 18, 19] rfl rfl rfl rfl ?tt ?hh (by (repeat' (first | exact rfl | exact trivial | exact sim_refl _ | refine And.intro ?_ ?_))) ?ok); (case tt => simp only [ewi]; (repeat' (first | exact rfl | exact trivial | exact sim_refl _ | refine And.intro ?_ ?_)); done); (case hh => (((repeat' (first | exact rfl | exact trivial | exact sim_refl _ | exact simO_refl _ | exact subE_same rfl ren_wlE | exact subE_same rfl ren_rlE | exact subE_same rfl ren_bwE | exact subE_wrE rfl rfl | exact subE_rdE rfl rfl | exact sim_wrP rfl | exact sim_rdP rfl | exact sim_bsV rfl | assumption | refine And.intro ?_ ?_)); done))); (case ok => (((repeat' (first | exact rfl | exact trivial | exact okE_wlE | exact okE_rlE | exact okE_bwE | exact okE_wrE rfl | exact okE_rdE rfl | exact okP_wrP (i := 13) rfl | exact okP_wrP (i := 15) rfl | exact okP_rdP (i := 17) rfl | exact okP_rdP (i := 19) rfl | refine And.intro ?_ ?_)); done))); (case iv => exact AInv.next h (BInv.nx b hLn hWn (b.o0) (b.o1) (okn) (b.o3)) (by dsimp only; omega) (by dsimp only; omega) (m)))
set_option maxHeartbeats 4000000 in
theorem ar2i1 (h : AInv R N x) (hin : x.i < N) (hi : x.i < 100) (ha : a3 (o x.i).1 = 2) (hb : bkB (o x.i).1 (o x.i).2 (hdO x.z.c0) (hdO x.z.c1) = false) {r : RR} (hc : x.z.c2 = none) (hr : rStep R ⟨epW (x.z.W.getD 7 0), 1, 0, 0, 0, none⟩ x.z.W x.z.st = r) (e0 : r.k = 1)
    (J : ∀ p, AJ2 p R q N cap o x ρ w I) : ∃ p, AG2 p R q N cap o x ρ w I := by
  have F := h.facts hin hi
  obtain ⟨i, ⟨W, st, kd, wd, vl, ch, stb, kdb, wdb, vlb, chb, f, n, c0, c1, c2, c3, p0, q0, p1, q1, p2, q2, p3, q3, d0, d1, d2, d3⟩⟩ := x
  dsimp only at hin hi ha hb hc hr F
  subst hc
  have b := h.b
  have m := h.m
  obtain ⟨hin1, hi1, ewi, r1, r2, hl, hl16, w0, w1, s0, s1, n0, n1⟩ := F
  have n2 : n < 1000000 := by omega
  have hcm := a3_cases (o i).2
  have ok : ROk R ⟨epW (W.getD 7 0), 1, 0, 0, 0, none⟩ := rok_new r1
  have aft := rAft (st := st) ok w0 w1
  rw [hr] at aft
  have hLn := hl
  have hLr := hl.symm
  have hWn := b.hw
  refine ⟨⟨f, c0, c1, false, 2, true, 1, w00, r⟩, ?_⟩
  have hX := hXTu ⟨f, c0, c1, false, 2, true, 1, w00, r⟩
  dsimp only [AG2, alT, alH, wdH]
  refine sxb hX [.r 9] [] 4000 rfl (by first | exact trivial | simp [conjP]) ?_
  refine sxb hX [.r 9] [.T, .T] 4000 rfl (by simp [conjP, hin, hin1, hi1, hb]) ?_
  simp only [Int.toNat_natCast, ha]
  refine sx hX [] 4000 rfl (by (simp [-List.getD_eq_getElem?_getD, -List.length_eq_zero_iff, conjP] <;> (first | omega | ((repeat' (refine And.intro ?_ ?_)) <;> (first | omega | exact decide_eq_false (by omega) | exact decide_eq_true (by omega)))))) ?_
  refine sx hX [.F] 4000 rfl (by (simp [-List.getD_eq_getElem?_getD, -List.length_eq_zero_iff, conjP, getH, HE.so, hin, hin1, r1, r2, hl, w0, w1, s0, s1, rdP, ok, hr, e0] <;> (first | omega | ((repeat' (refine And.intro ?_ ?_)) <;> (first | omega | exact decide_eq_false (by omega) | exact decide_eq_true (by omega)))))) ?_
  (refine ss_raw hX 10 3 rfl rfl fun v => ?_; refine J _ ⟨i + 1, ⟨W, st + 1, 1, r.wd, r.vl, false, stb, kdb, wdb, vlb, chb, true, n, c0, c1, none, c3, p0, q0, p1, q1, p2, v, p3, q3, d0, d1, d2, d3⟩⟩ ?iv rfl _ _ _ (sub_of [0, 1, 2, 3, 4, 5, 22, 7, 8, 9, 10, 11, 12, 13, 14, 15, 60, 61, 18, 19] rfl rfl rfl rfl ?tt ?hh (by (repeat' (first | exact rfl | exact trivial | exact sim_refl _ | refine And.intro ?_ ?_))) ?ok); (case tt => simp only [ewi]; (repeat' (first | exact rfl | exact trivial | exact sim_refl _ | refine And.intro ?_ ?_)); done); (case hh => (((repeat' (first | exact rfl | exact trivial | exact sim_refl _ | exact simO_refl _ | exact subE_same rfl ren_wlE | exact subE_same rfl ren_rlE | exact subE_same rfl ren_bwE | exact subE_wrE rfl rfl | exact subE_rdE rfl rfl | exact sim_wrP rfl | exact sim_rdP rfl | exact sim_bsV rfl | assumption | refine And.intro ?_ ?_)); done))); (case ok => (((repeat' (first | exact rfl | exact trivial | exact okE_wlE | exact okE_rlE | exact okE_bwE | exact okE_wrE rfl | exact okE_rdE rfl | exact okP_wrP (i := 13) rfl | exact okP_wrP (i := 15) rfl | exact okP_rdP (i := 17) rfl | exact okP_rdP (i := 19) rfl | refine And.intro ?_ ?_)); done))); (case iv => exact AInv.next h (BInv.nx b hLn hWn (b.o0) (b.o1) (trivial) (b.o3)) (by dsimp only; omega) (by dsimp only; omega) (m)))
set_option maxHeartbeats 4000000 in
theorem ar2n0 (h : AInv R N x) (hin : x.i < N) (hi : x.i < 100) (ha : a3 (o x.i).1 = 2) (hb : bkB (o x.i).1 (o x.i).2 (hdO x.z.c0) (hdO x.z.c1) = false) {r : RR} {ep nx sn fl tm : Int} (hc : x.z.c2 = some ⟨ep, nx, sn, fl, tm, none⟩) (hr : rStep R ⟨ep, nx, sn, fl, tm, none⟩ x.z.W x.z.st = r) (e0 : r.k = 0)
    (J : ∀ p, AJ2 p R q N cap o x ρ w I) : ∃ p, AG2 p R q N cap o x ρ w I := by
  have F := h.facts hin hi
  obtain ⟨i, ⟨W, st, kd, wd, vl, ch, stb, kdb, wdb, vlb, chb, f, n, c0, c1, c2, c3, p0, q0, p1, q1, p2, q2, p3, q3, d0, d1, d2, d3⟩⟩ := x
  dsimp only at hin hi ha hb hc hr F
  subst hc
  have b := h.b
  have m := h.m
  obtain ⟨hin1, hi1, ewi, r1, r2, hl, hl16, w0, w1, s0, s1, n0, n1⟩ := F
  have n2 : n < 1000000 := by omega
  have hcm := a3_cases (o i).2
  have ok : ROk R ⟨ep, nx, sn, fl, tm, none⟩ := b.o2
  have aft := rAft (st := st) ok w0 w1
  rw [hr] at aft
  have hLn := hl
  have hLr := hl.symm
  have hWn := b.hw
  have okn := aft.go (.inl e0)
  obtain ⟨e4, e3, e2, e1, _⟩ := aft.lk e0
  rw [e3] at okn
  refine ⟨⟨f, c0, c1, false, 2, false, 0, w00, r⟩, ?_⟩
  have hX := hXTu ⟨f, c0, c1, false, 2, false, 0, w00, r⟩
  dsimp only [AG2, alT, alH, wdH]
  refine sxb hX [.r 9] [] 4000 rfl (by first | exact trivial | simp [conjP]) ?_
  refine sxb hX [.r 9] [.T, .T] 4000 rfl (by simp [conjP, hin, hin1, hi1, hb]) ?_
  simp only [Int.toNat_natCast, ha]
  refine sx hX [] 4000 rfl (by (simp [-List.getD_eq_getElem?_getD, -List.length_eq_zero_iff, conjP] <;> (first | omega | ((repeat' (refine And.intro ?_ ?_)) <;> (first | omega | exact decide_eq_false (by omega) | exact decide_eq_true (by omega)))))) ?_
  refine sx hX [.F] 4000 rfl (by (simp [-List.getD_eq_getElem?_getD, -List.length_eq_zero_iff, conjP, getH, HE.so, hin, hin1, r1, r2, hl, w0, w1, s0, s1, rdP, rdE, slV, ok, hr, e0] <;> (first | omega | ((repeat' (refine And.intro ?_ ?_)) <;> (first | omega | exact decide_eq_false (by omega) | exact decide_eq_true (by omega)))))) ?_
  (refine ss_raw hX 10 3 rfl rfl fun v => ?_; refine J _ ⟨i + 1, ⟨W, st + 1, 1, r.wd, r.vl, false, stb, kdb, wdb, vlb, chb, true, n, c0, c1, some ⟨ep, r.nx, r.sn, r.fl, r.tm, none⟩, c3, p0, q0, p1, q1, p2, v, p3, q3, d0, d1, d2, d3⟩⟩ ?iv rfl _ _ _ (sub_of [0, 1, 2, 3, 4, 5, 20, 7, 8, 9, 10, 11, 12, 13, 14, 15, 16, 61, 18, 19] rfl rfl rfl rfl ?tt ?hh (by (repeat' (first | exact rfl | exact trivial | exact sim_refl _ | refine And.intro ?_ ?_))) ?ok); (case tt => simp only [ewi]; (repeat' (first | exact rfl | exact trivial | exact sim_refl _ | refine And.intro ?_ ?_)); done); (case hh => (((repeat' (first | exact rfl | exact trivial | exact sim_refl _ | exact simO_refl _ | exact subE_same rfl ren_wlE | exact subE_same rfl ren_rlE | exact subE_same rfl ren_bwE | exact subE_wrE rfl rfl | exact subE_rdE rfl rfl | exact sim_wrP rfl | exact sim_rdP rfl | exact sim_bsV rfl | assumption | refine And.intro ?_ ?_)); done))); (case ok => (((repeat' (first | exact rfl | exact trivial | exact okE_wlE | exact okE_rlE | exact okE_bwE | exact okE_wrE rfl | exact okE_rdE rfl | exact okP_wrP (i := 13) rfl | exact okP_wrP (i := 15) rfl | exact okP_rdP (i := 17) rfl | exact okP_rdP (i := 19) rfl | refine And.intro ?_ ?_)); done))); (case iv => exact AInv.next h (BInv.nx b hLn hWn (b.o0) (b.o1) (okn) (b.o3)) (by dsimp only; omega) (by dsimp only; omega) (m)))
set_option maxHeartbeats 4000000 in
theorem ar2n1 (h : AInv R N x) (hin : x.i < N) (hi : x.i < 100) (ha : a3 (o x.i).1 = 2) (hb : bkB (o x.i).1 (o x.i).2 (hdO x.z.c0) (hdO x.z.c1) = false) {r : RR} {ep nx sn fl tm : Int} (hc : x.z.c2 = some ⟨ep, nx, sn, fl, tm, none⟩) (hr : rStep R ⟨ep, nx, sn, fl, tm, none⟩ x.z.W x.z.st = r) (e0 : r.k = 1)
    (J : ∀ p, AJ2 p R q N cap o x ρ w I) : ∃ p, AG2 p R q N cap o x ρ w I := by
  have F := h.facts hin hi
  obtain ⟨i, ⟨W, st, kd, wd, vl, ch, stb, kdb, wdb, vlb, chb, f, n, c0, c1, c2, c3, p0, q0, p1, q1, p2, q2, p3, q3, d0, d1, d2, d3⟩⟩ := x
  dsimp only at hin hi ha hb hc hr F
  subst hc
  have b := h.b
  have m := h.m
  obtain ⟨hin1, hi1, ewi, r1, r2, hl, hl16, w0, w1, s0, s1, n0, n1⟩ := F
  have n2 : n < 1000000 := by omega
  have hcm := a3_cases (o i).2
  have ok : ROk R ⟨ep, nx, sn, fl, tm, none⟩ := b.o2
  have aft := rAft (st := st) ok w0 w1
  rw [hr] at aft
  have hLn := hl
  have hLr := hl.symm
  have hWn := b.hw
  refine ⟨⟨f, c0, c1, false, 2, false, 1, w00, r⟩, ?_⟩
  have hX := hXTu ⟨f, c0, c1, false, 2, false, 1, w00, r⟩
  dsimp only [AG2, alT, alH, wdH]
  refine sxb hX [.r 9] [] 4000 rfl (by first | exact trivial | simp [conjP]) ?_
  refine sxb hX [.r 9] [.T, .T] 4000 rfl (by simp [conjP, hin, hin1, hi1, hb]) ?_
  simp only [Int.toNat_natCast, ha]
  refine sx hX [] 4000 rfl (by (simp [-List.getD_eq_getElem?_getD, -List.length_eq_zero_iff, conjP] <;> (first | omega | ((repeat' (refine And.intro ?_ ?_)) <;> (first | omega | exact decide_eq_false (by omega) | exact decide_eq_true (by omega)))))) ?_
  refine sx hX [.F] 4000 rfl (by (simp [-List.getD_eq_getElem?_getD, -List.length_eq_zero_iff, conjP, getH, HE.so, hin, hin1, r1, r2, hl, w0, w1, s0, s1, rdP, rdE, slV, ok, hr, e0] <;> (first | omega | ((repeat' (refine And.intro ?_ ?_)) <;> (first | omega | exact decide_eq_false (by omega) | exact decide_eq_true (by omega)))))) ?_
  (refine ss_raw hX 10 3 rfl rfl fun v => ?_; refine J _ ⟨i + 1, ⟨W, st + 1, 1, r.wd, r.vl, false, stb, kdb, wdb, vlb, chb, true, n, c0, c1, none, c3, p0, q0, p1, q1, p2, v, p3, q3, d0, d1, d2, d3⟩⟩ ?iv rfl _ _ _ (sub_of [0, 1, 2, 3, 4, 5, 20, 7, 8, 9, 10, 11, 12, 13, 14, 15, 60, 61, 18, 19] rfl rfl rfl rfl ?tt ?hh (by (repeat' (first | exact rfl | exact trivial | exact sim_refl _ | refine And.intro ?_ ?_))) ?ok); (case tt => simp only [ewi]; (repeat' (first | exact rfl | exact trivial | exact sim_refl _ | refine And.intro ?_ ?_)); done); (case hh => (((repeat' (first | exact rfl | exact trivial | exact sim_refl _ | exact simO_refl _ | exact subE_same rfl ren_wlE | exact subE_same rfl ren_rlE | exact subE_same rfl ren_bwE | exact subE_wrE rfl rfl | exact subE_rdE rfl rfl | exact sim_wrP rfl | exact sim_rdP rfl | exact sim_bsV rfl | assumption | refine And.intro ?_ ?_)); done))); (case ok => (((repeat' (first | exact rfl | exact trivial | exact okE_wlE | exact okE_rlE | exact okE_bwE | exact okE_wrE rfl | exact okE_rdE rfl | exact okP_wrP (i := 13) rfl | exact okP_wrP (i := 15) rfl | exact okP_rdP (i := 17) rfl | exact okP_rdP (i := 19) rfl | refine And.intro ?_ ?_)); done))); (case iv => exact AInv.next h (BInv.nx b hLn hWn (b.o0) (b.o1) (trivial) (b.o3)) (by dsimp only; omega) (by dsimp only; omega) (m)))
set_option maxHeartbeats 4000000 in
theorem ar2n3 (h : AInv R N x) (hin : x.i < N) (hi : x.i < 100) (ha : a3 (o x.i).1 = 2) (hb : bkB (o x.i).1 (o x.i).2 (hdO x.z.c0) (hdO x.z.c1) = false) {r : RR} {ep nx sn fl tm : Int} (hc : x.z.c2 = some ⟨ep, nx, sn, fl, tm, none⟩) (hr : rStep R ⟨ep, nx, sn, fl, tm, none⟩ x.z.W x.z.st = r) (e0 : r.k = 3)
    (J : ∀ p, AJ2 p R q N cap o x ρ w I) : ∃ p, AG2 p R q N cap o x ρ w I := by
  have F := h.facts hin hi
  obtain ⟨i, ⟨W, st, kd, wd, vl, ch, stb, kdb, wdb, vlb, chb, f, n, c0, c1, c2, c3, p0, q0, p1, q1, p2, q2, p3, q3, d0, d1, d2, d3⟩⟩ := x
  dsimp only at hin hi ha hb hc hr F
  subst hc
  have b := h.b
  have m := h.m
  obtain ⟨hin1, hi1, ewi, r1, r2, hl, hl16, w0, w1, s0, s1, n0, n1⟩ := F
  have n2 : n < 1000000 := by omega
  have hcm := a3_cases (o i).2
  have ok : ROk R ⟨ep, nx, sn, fl, tm, none⟩ := b.o2
  have aft := rAft (st := st) ok w0 w1
  rw [hr] at aft
  have hLn := hl
  have hLr := hl.symm
  have hWn := b.hw
  have okn := aft.go (.inr (.inl e0))
  obtain ⟨e4, e2, e1, _, _, e3, _⟩ := aft.wd e0
  rw [e3] at okn
  refine ⟨⟨f, c0, c1, false, 2, false, 3, w00, r⟩, ?_⟩
  have hX := hXTu ⟨f, c0, c1, false, 2, false, 3, w00, r⟩
  dsimp only [AG2, alT, alH, wdH]
  refine sxb hX [.r 9] [] 4000 rfl (by first | exact trivial | simp [conjP]) ?_
  refine sxb hX [.r 9] [.T, .T] 4000 rfl (by simp [conjP, hin, hin1, hi1, hb]) ?_
  simp only [Int.toNat_natCast, ha]
  refine sx hX [] 4000 rfl (by (simp [-List.getD_eq_getElem?_getD, -List.length_eq_zero_iff, conjP] <;> (first | omega | ((repeat' (refine And.intro ?_ ?_)) <;> (first | omega | exact decide_eq_false (by omega) | exact decide_eq_true (by omega)))))) ?_
  refine sx hX [.F] 4000 rfl (by (simp [-List.getD_eq_getElem?_getD, -List.length_eq_zero_iff, conjP, getH, HE.so, hin, hin1, r1, r2, hl, w0, w1, s0, s1, rdP, rdE, slV, ok, hr, e0] <;> (first | omega | ((repeat' (refine And.intro ?_ ?_)) <;> (first | omega | exact decide_eq_false (by omega) | exact decide_eq_true (by omega)))))) ?_
  (refine ss_raw hX 10 3 rfl rfl fun v => ?_; refine J _ ⟨i + 1, ⟨W, st + 1, 1, r.wd, r.vl, false, stb, kdb, wdb, vlb, chb, true, n, c0, c1, some ⟨ep, r.nx, r.sn, r.fl, r.tm, (some [r.vl])⟩, c3, p0, q0, p1, q1, p2, v, p3, q3, d0, d1, d2, d3⟩⟩ ?iv rfl _ _ _ (sub_of [0, 1, 2, 3, 4, 5, 21, 7, 8, 9, 10, 11, 12, 13, 14, 15, 16, 20, 18, 19] rfl rfl rfl rfl ?tt ?hh (by (repeat' (first | exact rfl | exact trivial | exact sim_refl _ | refine And.intro ?_ ?_))) ?ok); (case tt => simp only [ewi]; (repeat' (first | exact rfl | exact trivial | exact sim_refl _ | refine And.intro ?_ ?_)); done); (case hh => (((repeat' (first | exact rfl | exact trivial | exact sim_refl _ | exact simO_refl _ | exact subE_same rfl ren_wlE | exact subE_same rfl ren_rlE | exact subE_same rfl ren_bwE | exact subE_wrE rfl rfl | exact subE_rdE rfl rfl | exact sim_wrP rfl | exact sim_rdP rfl | exact sim_bsV rfl | assumption | refine And.intro ?_ ?_)); done))); (case ok => (((repeat' (first | exact rfl | exact trivial | exact okE_wlE | exact okE_rlE | exact okE_bwE | exact okE_wrE rfl | exact okE_rdE rfl | exact okP_wrP (i := 13) rfl | exact okP_wrP (i := 15) rfl | exact okP_rdP (i := 17) rfl | exact okP_rdP (i := 19) rfl | refine And.intro ?_ ?_)); done))); (case iv => exact AInv.next h (BInv.nx b hLn hWn (b.o0) (b.o1) (okn) (b.o3)) (by dsimp only; omega) (by dsimp only; omega) (m)))
set_option maxHeartbeats 4000000 in
theorem ar2s0 (h : AInv R N x) (hin : x.i < N) (hi : x.i < 100) (ha : a3 (o x.i).1 = 2) (hb : bkB (o x.i).1 (o x.i).2 (hdO x.z.c0) (hdO x.z.c1) = false) {r : RR} {ep nx sn fl tm : Int} {l : List Int} (hc : x.z.c2 = some ⟨ep, nx, sn, fl, tm, (some l)⟩) (hr : rStep R ⟨ep, nx, sn, fl, tm, (some l)⟩ x.z.W x.z.st = r) (e0 : r.k = 0)
    (J : ∀ p, AJ2 p R q N cap o x ρ w I) : ∃ p, AG2 p R q N cap o x ρ w I := by
  have F := h.facts hin hi
  obtain ⟨i, ⟨W, st, kd, wd, vl, ch, stb, kdb, wdb, vlb, chb, f, n, c0, c1, c2, c3, p0, q0, p1, q1, p2, q2, p3, q3, d0, d1, d2, d3⟩⟩ := x
  dsimp only at hin hi ha hb hc hr F
  subst hc
  have b := h.b
  have m := h.m
  obtain ⟨hin1, hi1, ewi, r1, r2, hl, hl16, w0, w1, s0, s1, n0, n1⟩ := F
  have n2 : n < 1000000 := by omega
  have hcm := a3_cases (o i).2
  have ok : ROk R ⟨ep, nx, sn, fl, tm, (some l)⟩ := b.o2
  have aft := rAft (st := st) ok w0 w1
  rw [hr] at aft
  have hLn := hl
  have hLr := hl.symm
  have hWn := b.hw
  have okn := aft.go (.inl e0)
  obtain ⟨e4, e3, e2, e1, _⟩ := aft.lk e0
  rw [e3] at okn
  refine ⟨⟨f, c0, c1, false, 2, false, 0, w00, r⟩, ?_⟩
  have hX := hXTu ⟨f, c0, c1, false, 2, false, 0, w00, r⟩
  dsimp only [AG2, alT, alH, wdH]
  refine sxb hX [.r 9] [] 4000 rfl (by first | exact trivial | simp [conjP]) ?_
  refine sxb hX [.r 9] [.T, .T] 4000 rfl (by simp [conjP, hin, hin1, hi1, hb]) ?_
  simp only [Int.toNat_natCast, ha]
  refine sx hX [] 4000 rfl (by (simp [-List.getD_eq_getElem?_getD, -List.length_eq_zero_iff, conjP] <;> (first | omega | ((repeat' (refine And.intro ?_ ?_)) <;> (first | omega | exact decide_eq_false (by omega) | exact decide_eq_true (by omega)))))) ?_
  refine sx hX [.F] 4000 rfl (by (simp [-List.getD_eq_getElem?_getD, -List.length_eq_zero_iff, conjP, getH, HE.so, hin, hin1, r1, r2, hl, w0, w1, s0, s1, rdP, rdE, slV, ok, hr, e0] <;> (first | omega | ((repeat' (refine And.intro ?_ ?_)) <;> (first | omega | exact decide_eq_false (by omega) | exact decide_eq_true (by omega)))))) ?_
  (refine ss_raw hX 10 3 rfl rfl fun v => ?_; refine J _ ⟨i + 1, ⟨W, st + 1, 1, r.wd, r.vl, false, stb, kdb, wdb, vlb, chb, true, n, c0, c1, some ⟨ep, r.nx, r.sn, r.fl, r.tm, none⟩, c3, p0, q0, p1, q1, p2, v, p3, q3, d0, d1, d2, d3⟩⟩ ?iv rfl _ _ _ (sub_of [0, 1, 2, 3, 4, 5, 20, 7, 8, 9, 10, 11, 12, 13, 14, 15, 16, 61, 18, 19] rfl rfl rfl rfl ?tt ?hh (by (repeat' (first | exact rfl | exact trivial | exact sim_refl _ | refine And.intro ?_ ?_))) ?ok); (case tt => simp only [ewi]; (repeat' (first | exact rfl | exact trivial | exact sim_refl _ | refine And.intro ?_ ?_)); done); (case hh => (((repeat' (first | exact rfl | exact trivial | exact sim_refl _ | exact simO_refl _ | exact subE_same rfl ren_wlE | exact subE_same rfl ren_rlE | exact subE_same rfl ren_bwE | exact subE_wrE rfl rfl | exact subE_rdE rfl rfl | exact sim_wrP rfl | exact sim_rdP rfl | exact sim_bsV rfl | assumption | refine And.intro ?_ ?_)); done))); (case ok => (((repeat' (first | exact rfl | exact trivial | exact okE_wlE | exact okE_rlE | exact okE_bwE | exact okE_wrE rfl | exact okE_rdE rfl | exact okP_wrP (i := 13) rfl | exact okP_wrP (i := 15) rfl | exact okP_rdP (i := 17) rfl | exact okP_rdP (i := 19) rfl | refine And.intro ?_ ?_)); done))); (case iv => exact AInv.next h (BInv.nx b hLn hWn (b.o0) (b.o1) (okn) (b.o3)) (by dsimp only; omega) (by dsimp only; omega) (m)))
set_option maxHeartbeats 4000000 in
theorem ar2s1 (h : AInv R N x) (hin : x.i < N) (hi : x.i < 100) (ha : a3 (o x.i).1 = 2) (hb : bkB (o x.i).1 (o x.i).2 (hdO x.z.c0) (hdO x.z.c1) = false) {r : RR} {ep nx sn fl tm : Int} {l : List Int} (hc : x.z.c2 = some ⟨ep, nx, sn, fl, tm, (some l)⟩) (hr : rStep R ⟨ep, nx, sn, fl, tm, (some l)⟩ x.z.W x.z.st = r) (e0 : r.k = 1)
    (J : ∀ p, AJ2 p R q N cap o x ρ w I) : ∃ p, AG2 p R q N cap o x ρ w I := by
  have F := h.facts hin hi
  obtain ⟨i, ⟨W, st, kd, wd, vl, ch, stb, kdb, wdb, vlb, chb, f, n, c0, c1, c2, c3, p0, q0, p1, q1, p2, q2, p3, q3, d0, d1, d2, d3⟩⟩ := x
  dsimp only at hin hi ha hb hc hr F
  subst hc
  have b := h.b
  have m := h.m
  obtain ⟨hin1, hi1, ewi, r1, r2, hl, hl16, w0, w1, s0, s1, n0, n1⟩ := F
  have n2 : n < 1000000 := by omega
  have hcm := a3_cases (o i).2
  have ok : ROk R ⟨ep, nx, sn, fl, tm, (some l)⟩ := b.o2
  have aft := rAft (st := st) ok w0 w1
  rw [hr] at aft
  have hLn := hl
  have hLr := hl.symm
  have hWn := b.hw
  refine ⟨⟨f, c0, c1, false, 2, false, 1, w00, r⟩, ?_⟩
  have hX := hXTu ⟨f, c0, c1, false, 2, false, 1, w00, r⟩
  dsimp only [AG2, alT, alH, wdH]
  refine sxb hX [.r 9] [] 4000 rfl (by first | exact trivial | simp [conjP]) ?_
  refine sxb hX [.r 9] [.T, .T] 4000 rfl (by simp [conjP, hin, hin1, hi1, hb]) ?_
  simp only [Int.toNat_natCast, ha]
  refine sx hX [] 4000 rfl (by (simp [-List.getD_eq_getElem?_getD, -List.length_eq_zero_iff, conjP] <;> (first | omega | ((repeat' (refine And.intro ?_ ?_)) <;> (first | omega | exact decide_eq_false (by omega) | exact decide_eq_true (by omega)))))) ?_
  refine sx hX [.F] 4000 rfl (by (simp [-List.getD_eq_getElem?_getD, -List.length_eq_zero_iff, conjP, getH, HE.so, hin, hin1, r1, r2, hl, w0, w1, s0, s1, rdP, rdE, slV, ok, hr, e0] <;> (first | omega | ((repeat' (refine And.intro ?_ ?_)) <;> (first | omega | exact decide_eq_false (by omega) | exact decide_eq_true (by omega)))))) ?_
  (refine ss_raw hX 10 3 rfl rfl fun v => ?_; refine J _ ⟨i + 1, ⟨W, st + 1, 1, r.wd, r.vl, false, stb, kdb, wdb, vlb, chb, true, n, c0, c1, none, c3, p0, q0, p1, q1, p2, v, p3, q3, d0, d1, d2, d3⟩⟩ ?iv rfl _ _ _ (sub_of [0, 1, 2, 3, 4, 5, 20, 7, 8, 9, 10, 11, 12, 13, 14, 15, 60, 61, 18, 19] rfl rfl rfl rfl ?tt ?hh (by (repeat' (first | exact rfl | exact trivial | exact sim_refl _ | refine And.intro ?_ ?_))) ?ok); (case tt => simp only [ewi]; (repeat' (first | exact rfl | exact trivial | exact sim_refl _ | refine And.intro ?_ ?_)); done); (case hh => (((repeat' (first | exact rfl | exact trivial | exact sim_refl _ | exact simO_refl _ | exact subE_same rfl ren_wlE | exact subE_same rfl ren_rlE | exact subE_same rfl ren_bwE | exact subE_wrE rfl rfl | exact subE_rdE rfl rfl | exact sim_wrP rfl | exact sim_rdP rfl | exact sim_bsV rfl | assumption | refine And.intro ?_ ?_)); done))); (case ok => (((repeat' (first | exact rfl | exact trivial | exact okE_wlE | exact okE_rlE | exact okE_bwE | exact okE_wrE rfl | exact okE_rdE rfl | exact okP_wrP (i := 13) rfl | exact okP_wrP (i := 15) rfl | exact okP_rdP (i := 17) rfl | exact okP_rdP (i := 19) rfl | refine And.intro ?_ ?_)); done))); (case iv => exact AInv.next h (BInv.nx b hLn hWn (b.o0) (b.o1) (trivial) (b.o3)) (by dsimp only; omega) (by dsimp only; omega) (m)))
set_option maxHeartbeats 4000000 in
theorem ar2s3 (h : AInv R N x) (hin : x.i < N) (hi : x.i < 100) (ha : a3 (o x.i).1 = 2) (hb : bkB (o x.i).1 (o x.i).2 (hdO x.z.c0) (hdO x.z.c1) = false) {r : RR} {ep nx sn fl tm : Int} {l : List Int} (hc : x.z.c2 = some ⟨ep, nx, sn, fl, tm, (some l)⟩) (hr : rStep R ⟨ep, nx, sn, fl, tm, (some l)⟩ x.z.W x.z.st = r) (e0 : r.k = 3)
    (J : ∀ p, AJ2 p R q N cap o x ρ w I) : ∃ p, AG2 p R q N cap o x ρ w I := by
  have F := h.facts hin hi
  obtain ⟨i, ⟨W, st, kd, wd, vl, ch, stb, kdb, wdb, vlb, chb, f, n, c0, c1, c2, c3, p0, q0, p1, q1, p2, q2, p3, q3, d0, d1, d2, d3⟩⟩ := x
  dsimp only at hin hi ha hb hc hr F
  subst hc
  have b := h.b
  have m := h.m
  obtain ⟨hin1, hi1, ewi, r1, r2, hl, hl16, w0, w1, s0, s1, n0, n1⟩ := F
  have n2 : n < 1000000 := by omega
  have hcm := a3_cases (o i).2
  have ok : ROk R ⟨ep, nx, sn, fl, tm, (some l)⟩ := b.o2
  have aft := rAft (st := st) ok w0 w1
  rw [hr] at aft
  have hLn := hl
  have hLr := hl.symm
  have hWn := b.hw
  have hwl : (l ++ [r.vl]).length = l.length + 1 := by simp
  have hwr := hwl.symm
  have okn := aft.go (.inr (.inl e0))
  obtain ⟨e4, e2, e1, _, _, e3, _⟩ := aft.wd e0
  rw [e3] at okn
  refine ⟨⟨f, c0, c1, false, 2, false, 3, w00, r⟩, ?_⟩
  have hX := hXTu ⟨f, c0, c1, false, 2, false, 3, w00, r⟩
  dsimp only [AG2, alT, alH, wdH]
  refine sxb hX [.r 9] [] 4000 rfl (by first | exact trivial | simp [conjP]) ?_
  refine sxb hX [.r 9] [.T, .T] 4000 rfl (by simp [conjP, hin, hin1, hi1, hb]) ?_
  simp only [Int.toNat_natCast, ha]
  refine sx hX [] 4000 rfl (by (simp [-List.getD_eq_getElem?_getD, -List.length_eq_zero_iff, conjP] <;> (first | omega | ((repeat' (refine And.intro ?_ ?_)) <;> (first | omega | exact decide_eq_false (by omega) | exact decide_eq_true (by omega)))))) ?_
  refine sx hX [.F] 4000 rfl (by (simp [-List.getD_eq_getElem?_getD, -List.length_eq_zero_iff, conjP, getH, HE.so, hin, hin1, r1, r2, hl, w0, w1, s0, s1, rdP, rdE, slV, ok, hr, e0] <;> (first | omega | ((repeat' (refine And.intro ?_ ?_)) <;> (first | omega | exact decide_eq_false (by omega) | exact decide_eq_true (by omega)))))) ?_
  (refine ss_raw hX 10 3 rfl rfl fun v => ?_; refine J _ ⟨i + 1, ⟨W, st + 1, 1, r.wd, r.vl, false, stb, kdb, wdb, vlb, chb, true, n, c0, c1, some ⟨ep, r.nx, r.sn, r.fl, r.tm, (some (l ++ [r.vl]))⟩, c3, p0, q0, p1, q1, p2, v, p3, q3, d0, d1, d2, d3⟩⟩ ?iv rfl _ _ _ (sub_of [0, 1, 2, 3, 4, 5, 21, 7, 8, 9, 10, 11, 12, 13, 14, 15, 16, 20, 18, 19] rfl rfl rfl rfl ?tt ?hh (by (repeat' (first | exact rfl | exact trivial | exact sim_refl _ | refine And.intro ?_ ?_))) ?ok); (case tt => simp only [ewi]; (repeat' (first | exact rfl | exact trivial | exact sim_refl _ | refine And.intro ?_ ?_)); done); (case hh => (((repeat' (first | exact rfl | exact trivial | exact sim_refl _ | exact simO_refl _ | exact subE_same rfl ren_wlE | exact subE_same rfl ren_rlE | exact subE_same rfl ren_bwE | exact subE_wrE rfl rfl | exact subE_rdE rfl rfl | exact sim_wrP rfl | exact sim_rdP rfl | exact sim_bsV rfl | assumption | refine And.intro ?_ ?_)); done))); (case ok => (((repeat' (first | exact rfl | exact trivial | exact okE_wlE | exact okE_rlE | exact okE_bwE | exact okE_wrE rfl | exact okE_rdE rfl | exact okP_wrP (i := 13) rfl | exact okP_wrP (i := 15) rfl | exact okP_rdP (i := 17) rfl | exact okP_rdP (i := 19) rfl | refine And.intro ?_ ?_)); done))); (case iv => exact AInv.next h (BInv.nx b hLn hWn (b.o0) (b.o1) (okn) (b.o3)) (by dsimp only; omega) (by dsimp only; omega) (m)))
set_option maxHeartbeats 4000000 in
theorem ar2s2 (h : AInv R N x) (hin : x.i < N) (hi : x.i < 100) (ha : a3 (o x.i).1 = 2) (hb : bkB (o x.i).1 (o x.i).2 (hdO x.z.c0) (hdO x.z.c1) = false) {r : RR} {ep nx sn fl tm : Int} {l : List Int} (hc : x.z.c2 = some ⟨ep, nx, sn, fl, tm, (some l)⟩) (hr : rStep R ⟨ep, nx, sn, fl, tm, (some l)⟩ x.z.W x.z.st = r) (e0 : r.k = 2)
    (J : ∀ p, AJ2 p R q N cap o x ρ w I) : ∃ p, AG2 p R q N cap o x ρ w I := by
  have F := h.facts hin hi
  obtain ⟨i, ⟨W, st, kd, wd, vl, ch, stb, kdb, wdb, vlb, chb, f, n, c0, c1, c2, c3, p0, q0, p1, q1, p2, q2, p3, q3, d0, d1, d2, d3⟩⟩ := x
  dsimp only at hin hi ha hb hc hr F
  subst hc
  have b := h.b
  have m := h.m
  obtain ⟨hin1, hi1, ewi, r1, r2, hl, hl16, w0, w1, s0, s1, n0, n1⟩ := F
  have n2 : n < 1000000 := by omega
  have hcm := a3_cases (o i).2
  have ok : ROk R ⟨ep, nx, sn, fl, tm, (some l)⟩ := b.o2
  have aft := rAft (st := st) ok w0 w1
  rw [hr] at aft
  have hLn := hl
  have hLr := hl.symm
  have hWn := b.hw
  refine ⟨⟨f, c0, c1, false, 2, false, 2, w00, r⟩, ?_⟩
  have hX := hXTu ⟨f, c0, c1, false, 2, false, 2, w00, r⟩
  dsimp only [AG2, alT, alH, wdH]
  refine sxb hX [.r 9] [] 4000 rfl (by first | exact trivial | simp [conjP]) ?_
  refine sxb hX [.r 9] [.T, .T] 4000 rfl (by simp [conjP, hin, hin1, hi1, hb]) ?_
  simp only [Int.toNat_natCast, ha]
  refine sx hX [] 4000 rfl (by (simp [-List.getD_eq_getElem?_getD, -List.length_eq_zero_iff, conjP] <;> (first | omega | ((repeat' (refine And.intro ?_ ?_)) <;> (first | omega | exact decide_eq_false (by omega) | exact decide_eq_true (by omega)))))) ?_
  refine sx hX [.F] 4000 rfl (by (simp [-List.getD_eq_getElem?_getD, -List.length_eq_zero_iff, conjP, getH, HE.so, hin, hin1, r1, r2, hl, w0, w1, s0, s1, rdP, rdE, slV, ok, hr, e0] <;> (first | omega | ((repeat' (refine And.intro ?_ ?_)) <;> (first | omega | exact decide_eq_false (by omega) | exact decide_eq_true (by omega)))))) ?_
  (refine ss_raw hX 10 3 rfl rfl fun v => ?_; refine J _ ⟨i + 1, ⟨W, st + 1, 1, r.wd, r.vl, false, stb, kdb, wdb, vlb, chb, true, n, c0, c1, none, c3, p0, q0, p1, q1, p2, v, p3, q3, d0, d1, d2, d3⟩⟩ ?iv rfl _ _ _ (sub_of [0, 1, 2, 3, 4, 5, 20, 7, 8, 9, 10, 11, 12, 13, 14, 15, 60, 61, 18, 19] rfl rfl rfl rfl ?tt ?hh (by (repeat' (first | exact rfl | exact trivial | exact sim_refl _ | refine And.intro ?_ ?_))) ?ok); (case tt => simp only [ewi]; (repeat' (first | exact rfl | exact trivial | exact sim_refl _ | refine And.intro ?_ ?_)); done); (case hh => (((repeat' (first | exact rfl | exact trivial | exact sim_refl _ | exact simO_refl _ | exact subE_same rfl ren_wlE | exact subE_same rfl ren_rlE | exact subE_same rfl ren_bwE | exact subE_wrE rfl rfl | exact subE_rdE rfl rfl | exact sim_wrP rfl | exact sim_rdP rfl | exact sim_bsV rfl | assumption | refine And.intro ?_ ?_)); done))); (case ok => (((repeat' (first | exact rfl | exact trivial | exact okE_wlE | exact okE_rlE | exact okE_bwE | exact okE_wrE rfl | exact okE_rdE rfl | exact okP_wrP (i := 13) rfl | exact okP_wrP (i := 15) rfl | exact okP_rdP (i := 17) rfl | exact okP_rdP (i := 19) rfl | refine And.intro ?_ ?_)); done))); (case iv => exact AInv.next h (BInv.nx b hLn hWn (b.o0) (b.o1) (trivial) (b.o3)) (by dsimp only; omega) (by dsimp only; omega) (m)))
set_option maxHeartbeats 4000000 in
theorem ar2s4 (h : AInv R N x) (hin : x.i < N) (hi : x.i < 100) (ha : a3 (o x.i).1 = 2) (hb : bkB (o x.i).1 (o x.i).2 (hdO x.z.c0) (hdO x.z.c1) = false) {r : RR} {ep nx sn fl tm : Int} {l : List Int} (hc : x.z.c2 = some ⟨ep, nx, sn, fl, tm, (some l)⟩) (hr : rStep R ⟨ep, nx, sn, fl, tm, (some l)⟩ x.z.W x.z.st = r) (e0 : r.k = 4)
    (J : ∀ p, AJ2 p R q N cap o x ρ w I) : ∃ p, AG2 p R q N cap o x ρ w I := by
  have F := h.facts hin hi
  obtain ⟨i, ⟨W, st, kd, wd, vl, ch, stb, kdb, wdb, vlb, chb, f, n, c0, c1, c2, c3, p0, q0, p1, q1, p2, q2, p3, q3, d0, d1, d2, d3⟩⟩ := x
  dsimp only at hin hi ha hb hc hr F
  subst hc
  have b := h.b
  have m := h.m
  obtain ⟨hin1, hi1, ewi, r1, r2, hl, hl16, w0, w1, s0, s1, n0, n1⟩ := F
  have n2 : n < 1000000 := by omega
  have hcm := a3_cases (o i).2
  have ok : ROk R ⟨ep, nx, sn, fl, tm, (some l)⟩ := b.o2
  have aft := rAft (st := st) ok w0 w1
  rw [hr] at aft
  have hLn := hl
  have hLr := hl.symm
  have hWn := b.hw
  have okn := aft.go (.inr (.inr e0))
  obtain ⟨e4, e3, e1, e2⟩ := aft.fa (.inl e0)
  rw [e2] at okn
  refine ⟨⟨f, c0, c1, false, 2, false, 4, w00, r⟩, ?_⟩
  have hX := hXTu ⟨f, c0, c1, false, 2, false, 4, w00, r⟩
  dsimp only [AG2, alT, alH, wdH]
  refine sxb hX [.r 9] [] 4000 rfl (by first | exact trivial | simp [conjP]) ?_
  refine sxb hX [.r 9] [.T, .T] 4000 rfl (by simp [conjP, hin, hin1, hi1, hb]) ?_
  simp only [Int.toNat_natCast, ha]
  refine sx hX [] 4000 rfl (by (simp [-List.getD_eq_getElem?_getD, -List.length_eq_zero_iff, conjP] <;> (first | omega | ((repeat' (refine And.intro ?_ ?_)) <;> (first | omega | exact decide_eq_false (by omega) | exact decide_eq_true (by omega)))))) ?_
  refine sx hX [.F] 4000 rfl (by (simp [-List.getD_eq_getElem?_getD, -List.length_eq_zero_iff, conjP, getH, HE.so, hin, hin1, r1, r2, hl, w0, w1, s0, s1, rdP, rdE, slV, ok, hr, e0] <;> (first | omega | ((repeat' (refine And.intro ?_ ?_)) <;> (first | omega | exact decide_eq_false (by omega) | exact decide_eq_true (by omega)))))) ?_
  (refine ss_raw hX 10 3 rfl rfl fun v => ?_; refine J _ ⟨i + 1, ⟨W, st + 1, 1, r.wd, r.vl, false, stb, kdb, wdb, vlb, chb, true, n, c0, c1, some ⟨ep, r.nx, r.sn, r.fl, r.tm, some l⟩, c3, p0, q0, p1, q1, p2, v, p3, q3, d0, d1, d2, d3⟩⟩ ?iv rfl _ _ _ (sub_of [0, 1, 2, 3, 4, 5, 20, 7, 8, 9, 10, 11, 12, 13, 14, 15, 16, 17, 18, 19] rfl rfl rfl rfl ?tt ?hh (by (repeat' (first | exact rfl | exact trivial | exact sim_refl _ | refine And.intro ?_ ?_))) ?ok); (case tt => simp only [ewi]; (repeat' (first | exact rfl | exact trivial | exact sim_refl _ | refine And.intro ?_ ?_)); done); (case hh => (((repeat' (first | exact rfl | exact trivial | exact sim_refl _ | exact simO_refl _ | exact subE_same rfl ren_wlE | exact subE_same rfl ren_rlE | exact subE_same rfl ren_bwE | exact subE_wrE rfl rfl | exact subE_rdE rfl rfl | exact sim_wrP rfl | exact sim_rdP rfl | exact sim_bsV rfl | assumption | refine And.intro ?_ ?_)); done))); (case ok => (((repeat' (first | exact rfl | exact trivial | exact okE_wlE | exact okE_rlE | exact okE_bwE | exact okE_wrE rfl | exact okE_rdE rfl | exact okP_wrP (i := 13) rfl | exact okP_wrP (i := 15) rfl | exact okP_rdP (i := 17) rfl | exact okP_rdP (i := 19) rfl | refine And.intro ?_ ?_)); done))); (case iv => exact AInv.next h (BInv.nx b hLn hWn (b.o0) (b.o1) (okn) (b.o3)) (by dsimp only; omega) (by dsimp only; omega) (m)))
set_option maxHeartbeats 4000000 in
theorem ar2s5 (h : AInv R N x) (hin : x.i < N) (hi : x.i < 100) (ha : a3 (o x.i).1 = 2) (hb : bkB (o x.i).1 (o x.i).2 (hdO x.z.c0) (hdO x.z.c1) = false) {r : RR} {ep nx sn fl tm : Int} {l : List Int} (hc : x.z.c2 = some ⟨ep, nx, sn, fl, tm, (some l)⟩) (hr : rStep R ⟨ep, nx, sn, fl, tm, (some l)⟩ x.z.W x.z.st = r) (e0 : r.k = 5)
    (J : ∀ p, AJ2 p R q N cap o x ρ w I) : ∃ p, AG2 p R q N cap o x ρ w I := by
  have F := h.facts hin hi
  obtain ⟨i, ⟨W, st, kd, wd, vl, ch, stb, kdb, wdb, vlb, chb, f, n, c0, c1, c2, c3, p0, q0, p1, q1, p2, q2, p3, q3, d0, d1, d2, d3⟩⟩ := x
  dsimp only at hin hi ha hb hc hr F
  subst hc
  have b := h.b
  have m := h.m
  obtain ⟨hin1, hi1, ewi, r1, r2, hl, hl16, w0, w1, s0, s1, n0, n1⟩ := F
  have n2 : n < 1000000 := by omega
  have hcm := a3_cases (o i).2
  have ok : ROk R ⟨ep, nx, sn, fl, tm, (some l)⟩ := b.o2
  have aft := rAft (st := st) ok w0 w1
  rw [hr] at aft
  have hLn := hl
  have hLr := hl.symm
  have hWn := b.hw
  refine ⟨⟨f, c0, c1, false, 2, false, 5, w00, r⟩, ?_⟩
  have hX := hXTu ⟨f, c0, c1, false, 2, false, 5, w00, r⟩
  dsimp only [AG2, alT, alH, wdH]
  refine sxb hX [.r 9] [] 4000 rfl (by first | exact trivial | simp [conjP]) ?_
  refine sxb hX [.r 9] [.T, .T] 4000 rfl (by simp [conjP, hin, hin1, hi1, hb]) ?_
  simp only [Int.toNat_natCast, ha]
  refine sx hX [] 4000 rfl (by (simp [-List.getD_eq_getElem?_getD, -List.length_eq_zero_iff, conjP] <;> (first | omega | ((repeat' (refine And.intro ?_ ?_)) <;> (first | omega | exact decide_eq_false (by omega) | exact decide_eq_true (by omega)))))) ?_
  refine sx hX [.F] 4000 rfl (by (simp [-List.getD_eq_getElem?_getD, -List.length_eq_zero_iff, conjP, getH, HE.so, hin, hin1, r1, r2, hl, w0, w1, s0, s1, rdP, rdE, slV, ok, hr, e0] <;> (first | omega | ((repeat' (refine And.intro ?_ ?_)) <;> (first | omega | exact decide_eq_false (by omega) | exact decide_eq_true (by omega)))))) ?_
  (refine ss_raw hX 10 3 rfl rfl fun v => ?_; refine J _ ⟨i + 1, ⟨W, st + 1, 1, r.wd, r.vl, false, stb, kdb, wdb, vlb, chb, true, n, c0, c1, none, c3, p0, q0, p1, q1, p2, v, p3, q3, d0, d1, d2, d3⟩⟩ ?iv rfl _ _ _ (sub_of [0, 1, 2, 3, 4, 5, 20, 7, 8, 9, 10, 11, 12, 13, 14, 15, 60, 61, 18, 19] rfl rfl rfl rfl ?tt ?hh (by (repeat' (first | exact rfl | exact trivial | exact sim_refl _ | refine And.intro ?_ ?_))) ?ok); (case tt => simp only [ewi]; (repeat' (first | exact rfl | exact trivial | exact sim_refl _ | refine And.intro ?_ ?_)); done); (case hh => (((repeat' (first | exact rfl | exact trivial | exact sim_refl _ | exact simO_refl _ | exact subE_same rfl ren_wlE | exact subE_same rfl ren_rlE | exact subE_same rfl ren_bwE | exact subE_wrE rfl rfl | exact subE_rdE rfl rfl | exact sim_wrP rfl | exact sim_rdP rfl | exact sim_bsV rfl | assumption | refine And.intro ?_ ?_)); done))); (case ok => (((repeat' (first | exact rfl | exact trivial | exact okE_wlE | exact okE_rlE | exact okE_bwE | exact okE_wrE rfl | exact okE_rdE rfl | exact okP_wrP (i := 13) rfl | exact okP_wrP (i := 15) rfl | exact okP_rdP (i := 17) rfl | exact okP_rdP (i := 19) rfl | refine And.intro ?_ ?_)); done))); (case iv => exact AInv.next h (BInv.nx b hLn hWn (b.o0) (b.o1) (trivial) (b.o3)) (by dsimp only; omega) (by dsimp only; omega) (m)))
end
end Go.Proofs.YtmghcelohnlceaaGreatDoor

/- SmallAlone: client 3's turns. -/
namespace Go.Proofs.YtmghcelohnlceaaGreatDoor
open Go Go.Hx
set_option maxRecDepth 8000
section
variable {R q : Int} {N cap : Nat} {o : Nat → Int × Int} {x : AS} {ρ : Nat → Nat × Nat} {w : World} {I : Act → World → Prop}
abbrev AJ3 (p : TP) (R q : Int) (N cap : Nat) (o : Nat → Int × Int) (x : AS) (ρ : Nat → Nat × Nat) (w : World) (I : Act → World → Prop) : Prop :=
  ∀ x', AInv R N x' → x'.i = x.i + 1 → ∀ cs T H, Sub (FEnv Tryz.prog (XTu p).TE (hXTu p).te Tryz.f3 Tryz.f3.ntmps [.obj (.rows N 2 (actR o)), pinE RTV] (Is .tt [.obj (.rows N 2 (actR o)), pinE RTV]) ρ w) T H (alT N cap q x') (alH N o R x') →
    SS (hXTu p) (At ρ w) (Is .tt [.obj (.rows N 2 (actR o)), pinE RTV]) ⟨cs, [], Tryz.f3, Tryz.f3.ntmps, [.obj (.rows N 2 (actR o)), pinE RTV], downLp (contF Tryz.f3 6 [I]), T, H⟩
abbrev AG3 (p : TP) (R q : Int) (N cap : Nat) (o : Nat → Int × Int) (x : AS) (ρ : Nat → Nat × Nat) (w : World) (I : Act → World → Prop) : Prop :=
  SS (hXTu p) (At ρ w) (Is .tt [.obj (.rows N 2 (actR o)), pinE RTV]) ⟨[], [], Tryz.f3, Tryz.f3.ntmps, [.obj (.rows N 2 (actR o)), pinE RTV], contF Tryz.f3 6 [I], alT N cap q x, alH N o R x⟩

set_option maxHeartbeats 4000000 in
theorem ar3i0 (h : AInv R N x) (hin : x.i < N) (hi : x.i < 100) (ha : a3 (o x.i).1 = 3) (hb : bkB (o x.i).1 (o x.i).2 (hdO x.z.c0) (hdO x.z.c1) = false) {r : RR} (hc : x.z.c3 = none) (hr : rStep R ⟨epW (x.z.W.getD 7 0), 1, 0, 0, 0, none⟩ x.z.W x.z.st = r) (e0 : r.k = 0)
    (J : ∀ p, AJ3 p R q N cap o x ρ w I) : ∃ p, AG3 p R q N cap o x ρ w I := by
  have F := h.facts hin hi
  obtain ⟨i, ⟨W, st, kd, wd, vl, ch, stb, kdb, wdb, vlb, chb, f, n, c0, c1, c2, c3, p0, q0, p1, q1, p2, q2, p3, q3, d0, d1, d2, d3⟩⟩ := x
  dsimp only at hin hi ha hb hc hr F
  subst hc
  have b := h.b
  have m := h.m
  obtain ⟨hin1, hi1, ewi, r1, r2, hl, hl16, w0, w1, s0, s1, n0, n1⟩ := F
  have n2 : n < 1000000 := by omega
  have hcm := a3_cases (o i).2
  have ok : ROk R ⟨epW (W.getD 7 0), 1, 0, 0, 0, none⟩ := rok_new r1
  have aft := rAft (st := st) ok w0 w1
  rw [hr] at aft
  have hLn := hl
  have hLr := hl.symm
  have hWn := b.hw
  have okn := aft.go (.inl e0)
  obtain ⟨e4, e3, e2, e1, _⟩ := aft.lk e0
  rw [e3] at okn
  refine ⟨⟨f, c0, c1, false, 3, true, 0, w00, r⟩, ?_⟩
  have hX := hXTu ⟨f, c0, c1, false, 3, true, 0, w00, r⟩
  dsimp only [AG3, alT, alH, wdH]
  refine sxb hX [.r 9] [] 4000 rfl (by first | exact trivial | simp [conjP]) ?_
  refine sxb hX [.r 9] [.T, .T] 4000 rfl (by simp [conjP, hin, hin1, hi1, hb]) ?_
  simp only [Int.toNat_natCast, ha]
  refine sx hX [] 4000 rfl (by (simp [-List.getD_eq_getElem?_getD, -List.length_eq_zero_iff, conjP] <;> (first | omega | ((repeat' (refine And.intro ?_ ?_)) <;> (first | omega | exact decide_eq_false (by omega) | exact decide_eq_true (by omega)))))) ?_
  refine sx hX [.F] 4000 rfl (by (simp [-List.getD_eq_getElem?_getD, -List.length_eq_zero_iff, conjP, getH, HE.so, hin, hin1, r1, r2, hl, w0, w1, s0, s1, rdP, ok, hr, e0] <;> (first | omega | ((repeat' (refine And.intro ?_ ?_)) <;> (first | omega | exact decide_eq_false (by omega) | exact decide_eq_true (by omega)))))) ?_
  (refine ss_raw hX 11 3 rfl rfl fun v => ?_; refine J _ ⟨i + 1, ⟨W, st + 1, 1, r.wd, r.vl, false, stb, kdb, wdb, vlb, chb, true, n, c0, c1, c2, some ⟨(epW (W.getD 7 0)), r.nx, r.sn, r.fl, r.tm, none⟩, p0, q0, p1, q1, p2, q2, p3, v, d0, d1, d2, d3⟩⟩ ?iv rfl _ _ _ (sub_of [0, 1, 2, 3, 4, 5, 22, 7, 8, 9, 10, 11, 12, 13, 14, 15, 16, 17, 20, 61] rfl rfl rfl rfl ?tt ?hh (by (repeat' (first | exact rfl | exact trivial | exact sim_refl _ | refine And.intro ?_ ?_))) ?ok); (case tt => simp only [ewi]; (repeat' (first | exact rfl | exact trivial | exact sim_refl _ | refine And.intro ?_ ?_)); done); (case hh => (((repeat' (first | exact rfl | exact trivial | exact sim_refl _ | exact simO_refl _ | exact subE_same rfl ren_wlE | exact subE_same rfl ren_rlE | exact subE_same rfl ren_bwE | exact subE_wrE rfl rfl | exact subE_rdE rfl rfl | exact sim_wrP rfl | exact sim_rdP rfl | exact sim_bsV rfl | assumption | refine And.intro ?_ ?_)); done))); (case ok => (((repeat' (first | exact rfl | exact trivial | exact okE_wlE | exact okE_rlE | exact okE_bwE | exact okE_wrE rfl | exact okE_rdE rfl | exact okP_wrP (i := 13) rfl | exact okP_wrP (i := 15) rfl | exact okP_rdP (i := 17) rfl | exact okP_rdP (i := 19) rfl | refine And.intro ?_ ?_)); done))); (case iv => exact AInv.next h (BInv.nx b hLn hWn (b.o0) (b.o1) (b.o2) (okn)) (by dsimp only; omega) (by dsimp only; omega) (m)))
set_option maxHeartbeats 4000000 in
theorem ar3i1 (h : AInv R N x) (hin : x.i < N) (hi : x.i < 100) (ha : a3 (o x.i).1 = 3) (hb : bkB (o x.i).1 (o x.i).2 (hdO x.z.c0) (hdO x.z.c1) = false) {r : RR} (hc : x.z.c3 = none) (hr : rStep R ⟨epW (x.z.W.getD 7 0), 1, 0, 0, 0, none⟩ x.z.W x.z.st = r) (e0 : r.k = 1)
    (J : ∀ p, AJ3 p R q N cap o x ρ w I) : ∃ p, AG3 p R q N cap o x ρ w I := by
  have F := h.facts hin hi
  obtain ⟨i, ⟨W, st, kd, wd, vl, ch, stb, kdb, wdb, vlb, chb, f, n, c0, c1, c2, c3, p0, q0, p1, q1, p2, q2, p3, q3, d0, d1, d2, d3⟩⟩ := x
  dsimp only at hin hi ha hb hc hr F
  subst hc
  have b := h.b
  have m := h.m
  obtain ⟨hin1, hi1, ewi, r1, r2, hl, hl16, w0, w1, s0, s1, n0, n1⟩ := F
  have n2 : n < 1000000 := by omega
  have hcm := a3_cases (o i).2
  have ok : ROk R ⟨epW (W.getD 7 0), 1, 0, 0, 0, none⟩ := rok_new r1
  have aft := rAft (st := st) ok w0 w1
  rw [hr] at aft
  have hLn := hl
  have hLr := hl.symm
  have hWn := b.hw
  refine ⟨⟨f, c0, c1, false, 3, true, 1, w00, r⟩, ?_⟩
  have hX := hXTu ⟨f, c0, c1, false, 3, true, 1, w00, r⟩
  dsimp only [AG3, alT, alH, wdH]
  refine sxb hX [.r 9] [] 4000 rfl (by first | exact trivial | simp [conjP]) ?_
  refine sxb hX [.r 9] [.T, .T] 4000 rfl (by simp [conjP, hin, hin1, hi1, hb]) ?_
  simp only [Int.toNat_natCast, ha]
  refine sx hX [] 4000 rfl (by (simp [-List.getD_eq_getElem?_getD, -List.length_eq_zero_iff, conjP] <;> (first | omega | ((repeat' (refine And.intro ?_ ?_)) <;> (first | omega | exact decide_eq_false (by omega) | exact decide_eq_true (by omega)))))) ?_
  refine sx hX [.F] 4000 rfl (by (simp [-List.getD_eq_getElem?_getD, -List.length_eq_zero_iff, conjP, getH, HE.so, hin, hin1, r1, r2, hl, w0, w1, s0, s1, rdP, ok, hr, e0] <;> (first | omega | ((repeat' (refine And.intro ?_ ?_)) <;> (first | omega | exact decide_eq_false (by omega) | exact decide_eq_true (by omega)))))) ?_
  (refine ss_raw hX 11 3 rfl rfl fun v => ?_; refine J _ ⟨i + 1, ⟨W, st + 1, 1, r.wd, r.vl, false, stb, kdb, wdb, vlb, chb, true, n, c0, c1, c2, none, p0, q0, p1, q1, p2, q2, p3, v, d0, d1, d2, d3⟩⟩ ?iv rfl _ _ _ (sub_of [0, 1, 2, 3, 4, 5, 22, 7, 8, 9, 10, 11, 12, 13, 14, 15, 16, 17, 60, 61] rfl rfl rfl rfl ?tt ?hh (by (repeat' (first | exact rfl | exact trivial | exact sim_refl _ | refine And.intro ?_ ?_))) ?ok); (case tt => simp only [ewi]; (repeat' (first | exact rfl | exact trivial | exact sim_refl _ | refine And.intro ?_ ?_)); done); (case hh => (((repeat' (first | exact rfl | exact trivial | exact sim_refl _ | exact simO_refl _ | exact subE_same rfl ren_wlE | exact subE_same rfl ren_rlE | exact subE_same rfl ren_bwE | exact subE_wrE rfl rfl | exact subE_rdE rfl rfl | exact sim_wrP rfl | exact sim_rdP rfl | exact sim_bsV rfl | assumption | refine And.intro ?_ ?_)); done))); (case ok => (((repeat' (first | exact rfl | exact trivial | exact okE_wlE | exact okE_rlE | exact okE_bwE | exact okE_wrE rfl | exact okE_rdE rfl | exact okP_wrP (i := 13) rfl | exact okP_wrP (i := 15) rfl | exact okP_rdP (i := 17) rfl | exact okP_rdP (i := 19) rfl | refine And.intro ?_ ?_)); done))); (case iv => exact AInv.next h (BInv.nx b hLn hWn (b.o0) (b.o1) (b.o2) (trivial)) (by dsimp only; omega) (by dsimp only; omega) (m)))
set_option maxHeartbeats 4000000 in
theorem ar3n0 (h : AInv R N x) (hin : x.i < N) (hi : x.i < 100) (ha : a3 (o x.i).1 = 3) (hb : bkB (o x.i).1 (o x.i).2 (hdO x.z.c0) (hdO x.z.c1) = false) {r : RR} {ep nx sn fl tm : Int} (hc : x.z.c3 = some ⟨ep, nx, sn, fl, tm, none⟩) (hr : rStep R ⟨ep, nx, sn, fl, tm, none⟩ x.z.W x.z.st = r) (e0 : r.k = 0)
    (J : ∀ p, AJ3 p R q N cap o x ρ w I) : ∃ p, AG3 p R q N cap o x ρ w I := by
  have F := h.facts hin hi
  obtain ⟨i, ⟨W, st, kd, wd, vl, ch, stb, kdb, wdb, vlb, chb, f, n, c0, c1, c2, c3, p0, q0, p1, q1, p2, q2, p3, q3, d0, d1, d2, d3⟩⟩ := x
  dsimp only at hin hi ha hb hc hr F
  subst hc
  have b := h.b
  have m := h.m
  obtain ⟨hin1, hi1, ewi, r1, r2, hl, hl16, w0, w1, s0, s1, n0, n1⟩ := F
  have n2 : n < 1000000 := by omega
  have hcm := a3_cases (o i).2
  have ok : ROk R ⟨ep, nx, sn, fl, tm, none⟩ := b.o3
  have aft := rAft (st := st) ok w0 w1
  rw [hr] at aft
  have hLn := hl
  have hLr := hl.symm
  have hWn := b.hw
  have okn := aft.go (.inl e0)
  obtain ⟨e4, e3, e2, e1, _⟩ := aft.lk e0
  rw [e3] at okn
  refine ⟨⟨f, c0, c1, false, 3, false, 0, w00, r⟩, ?_⟩
  have hX := hXTu ⟨f, c0, c1, false, 3, false, 0, w00, r⟩
  dsimp only [AG3, alT, alH, wdH]
  refine sxb hX [.r 9] [] 4000 rfl (by first | exact trivial | simp [conjP]) ?_
  refine sxb hX [.r 9] [.T, .T] 4000 rfl (by simp [conjP, hin, hin1, hi1, hb]) ?_
  simp only [Int.toNat_natCast, ha]
  refine sx hX [] 4000 rfl (by (simp [-List.getD_eq_getElem?_getD, -List.length_eq_zero_iff, conjP] <;> (first | omega | ((repeat' (refine And.intro ?_ ?_)) <;> (first | omega | exact decide_eq_false (by omega) | exact decide_eq_true (by omega)))))) ?_
  refine sx hX [.F] 4000 rfl (by (simp [-List.getD_eq_getElem?_getD, -List.length_eq_zero_iff, conjP, getH, HE.so, hin, hin1, r1, r2, hl, w0, w1, s0, s1, rdP, rdE, slV, ok, hr, e0] <;> (first | omega | ((repeat' (refine And.intro ?_ ?_)) <;> (first | omega | exact decide_eq_false (by omega) | exact decide_eq_true (by omega)))))) ?_
  (refine ss_raw hX 11 3 rfl rfl fun v => ?_; refine J _ ⟨i + 1, ⟨W, st + 1, 1, r.wd, r.vl, false, stb, kdb, wdb, vlb, chb, true, n, c0, c1, c2, some ⟨ep, r.nx, r.sn, r.fl, r.tm, none⟩, p0, q0, p1, q1, p2, q2, p3, v, d0, d1, d2, d3⟩⟩ ?iv rfl _ _ _ (sub_of [0, 1, 2, 3, 4, 5, 20, 7, 8, 9, 10, 11, 12, 13, 14, 15, 16, 17, 18, 61] rfl rfl rfl rfl ?tt ?hh (by (repeat' (first | exact rfl | exact trivial | exact sim_refl _ | refine And.intro ?_ ?_))) ?ok); (case tt => simp only [ewi]; (repeat' (first | exact rfl | exact trivial | exact sim_refl _ | refine And.intro ?_ ?_)); done); (case hh => (((repeat' (first | exact rfl | exact trivial | exact sim_refl _ | exact simO_refl _ | exact subE_same rfl ren_wlE | exact subE_same rfl ren_rlE | exact subE_same rfl ren_bwE | exact subE_wrE rfl rfl | exact subE_rdE rfl rfl | exact sim_wrP rfl | exact sim_rdP rfl | exact sim_bsV rfl | assumption | refine And.intro ?_ ?_)); done))); (case ok => (((repeat' (first | exact rfl | exact trivial | exact okE_wlE | exact okE_rlE | exact okE_bwE | exact okE_wrE rfl | exact okE_rdE rfl | exact okP_wrP (i := 13) rfl | exact okP_wrP (i := 15) rfl | exact okP_rdP (i := 17) rfl | exact okP_rdP (i := 19) rfl | refine And.intro ?_ ?_)); done))); (case iv => exact AInv.next h (BInv.nx b hLn hWn (b.o0) (b.o1) (b.o2) (okn)) (by dsimp only; omega) (by dsimp only; omega) (m)))
set_option maxHeartbeats 4000000 in
theorem ar3n1 (h : AInv R N x) (hin : x.i < N) (hi : x.i < 100) (ha : a3 (o x.i).1 = 3) (hb : bkB (o x.i).1 (o x.i).2 (hdO x.z.c0) (hdO x.z.c1) = false) {r : RR} {ep nx sn fl tm : Int} (hc : x.z.c3 = some ⟨ep, nx, sn, fl, tm, none⟩) (hr : rStep R ⟨ep, nx, sn, fl, tm, none⟩ x.z.W x.z.st = r) (e0 : r.k = 1)
    (J : ∀ p, AJ3 p R q N cap o x ρ w I) : ∃ p, AG3 p R q N cap o x ρ w I := by
  have F := h.facts hin hi
  obtain ⟨i, ⟨W, st, kd, wd, vl, ch, stb, kdb, wdb, vlb, chb, f, n, c0, c1, c2, c3, p0, q0, p1, q1, p2, q2, p3, q3, d0, d1, d2, d3⟩⟩ := x
  dsimp only at hin hi ha hb hc hr F
  subst hc
  have b := h.b
  have m := h.m
  obtain ⟨hin1, hi1, ewi, r1, r2, hl, hl16, w0, w1, s0, s1, n0, n1⟩ := F
  have n2 : n < 1000000 := by omega
  have hcm := a3_cases (o i).2
  have ok : ROk R ⟨ep, nx, sn, fl, tm, none⟩ := b.o3
  have aft := rAft (st := st) ok w0 w1
  rw [hr] at aft
  have hLn := hl
  have hLr := hl.symm
  have hWn := b.hw
  refine ⟨⟨f, c0, c1, false, 3, false, 1, w00, r⟩, ?_⟩
  have hX := hXTu ⟨f, c0, c1, false, 3, false, 1, w00, r⟩
  dsimp only [AG3, alT, alH, wdH]
  refine sxb hX [.r 9] [] 4000 rfl (by first | exact trivial | simp [conjP]) ?_
  refine sxb hX [.r 9] [.T, .T] 4000 rfl (by simp [conjP, hin, hin1, hi1, hb]) ?_
  simp only [Int.toNat_natCast, ha]
  refine sx hX [] 4000 rfl (by (simp [-List.getD_eq_getElem?_getD, -List.length_eq_zero_iff, conjP] <;> (first | omega | ((repeat' (refine And.intro ?_ ?_)) <;> (first | omega | exact decide_eq_false (by omega) | exact decide_eq_true (by omega)))))) ?_
  refine sx hX [.F] 4000 rfl (by (simp [-List.getD_eq_getElem?_getD, -List.length_eq_zero_iff, conjP, getH, HE.so, hin, hin1, r1, r2, hl, w0, w1, s0, s1, rdP, rdE, slV, ok, hr, e0] <;> (first | omega | ((repeat' (refine And.intro ?_ ?_)) <;> (first | omega | exact decide_eq_false (by omega) | exact decide_eq_true (by omega)))))) ?_
  (refine ss_raw hX 11 3 rfl rfl fun v => ?_; refine J _ ⟨i + 1, ⟨W, st + 1, 1, r.wd, r.vl, false, stb, kdb, wdb, vlb, chb, true, n, c0, c1, c2, none, p0, q0, p1, q1, p2, q2, p3, v, d0, d1, d2, d3⟩⟩ ?iv rfl _ _ _ (sub_of [0, 1, 2, 3, 4, 5, 20, 7, 8, 9, 10, 11, 12, 13, 14, 15, 16, 17, 60, 61] rfl rfl rfl rfl ?tt ?hh (by (repeat' (first | exact rfl | exact trivial | exact sim_refl _ | refine And.intro ?_ ?_))) ?ok); (case tt => simp only [ewi]; (repeat' (first | exact rfl | exact trivial | exact sim_refl _ | refine And.intro ?_ ?_)); done); (case hh => (((repeat' (first | exact rfl | exact trivial | exact sim_refl _ | exact simO_refl _ | exact subE_same rfl ren_wlE | exact subE_same rfl ren_rlE | exact subE_same rfl ren_bwE | exact subE_wrE rfl rfl | exact subE_rdE rfl rfl | exact sim_wrP rfl | exact sim_rdP rfl | exact sim_bsV rfl | assumption | refine And.intro ?_ ?_)); done))); (case ok => (((repeat' (first | exact rfl | exact trivial | exact okE_wlE | exact okE_rlE | exact okE_bwE | exact okE_wrE rfl | exact okE_rdE rfl | exact okP_wrP (i := 13) rfl | exact okP_wrP (i := 15) rfl | exact okP_rdP (i := 17) rfl | exact okP_rdP (i := 19) rfl | refine And.intro ?_ ?_)); done))); (case iv => exact AInv.next h (BInv.nx b hLn hWn (b.o0) (b.o1) (b.o2) (trivial)) (by dsimp only; omega) (by dsimp only; omega) (m)))
set_option maxHeartbeats 4000000 in
theorem ar3n3 (h : AInv R N x) (hin : x.i < N) (hi : x.i < 100) (ha : a3 (o x.i).1 = 3) (hb : bkB (o x.i).1 (o x.i).2 (hdO x.z.c0) (hdO x.z.c1) = false) {r : RR} {ep nx sn fl tm : Int} (hc : x.z.c3 = some ⟨ep, nx, sn, fl, tm, none⟩) (hr : rStep R ⟨ep, nx, sn, fl, tm, none⟩ x.z.W x.z.st = r) (e0 : r.k = 3)
    (J : ∀ p, AJ3 p R q N cap o x ρ w I) : ∃ p, AG3 p R q N cap o x ρ w I := by
  have F := h.facts hin hi
  obtain ⟨i, ⟨W, st, kd, wd, vl, ch, stb, kdb, wdb, vlb, chb, f, n, c0, c1, c2, c3, p0, q0, p1, q1, p2, q2, p3, q3, d0, d1, d2, d3⟩⟩ := x
  dsimp only at hin hi ha hb hc hr F
  subst hc
  have b := h.b
  have m := h.m
  obtain ⟨hin1, hi1, ewi, r1, r2, hl, hl16, w0, w1, s0, s1, n0, n1⟩ := F
  have n2 : n < 1000000 := by omega
  have hcm := a3_cases (o i).2
  have ok : ROk R ⟨ep, nx, sn, fl, tm, none⟩ := b.o3
  have aft := rAft (st := st) ok w0 w1
  rw [hr] at aft
  have hLn := hl
  have hLr := hl.symm
  have hWn := b.hw
  have okn := aft.go (.inr (.inl e0))
  obtain ⟨e4, e2, e1, _, _, e3, _⟩ := aft.wd e0
  rw [e3] at okn
  refine ⟨⟨f, c0, c1, false, 3, false, 3, w00, r⟩, ?_⟩
  have hX := hXTu ⟨f, c0, c1, false, 3, false, 3, w00, r⟩
  dsimp only [AG3, alT, alH, wdH]
  refine sxb hX [.r 9] [] 4000 rfl (by first | exact trivial | simp [conjP]) ?_
  refine sxb hX [.r 9] [.T, .T] 4000 rfl (by simp [conjP, hin, hin1, hi1, hb]) ?_
  simp only [Int.toNat_natCast, ha]
  refine sx hX [] 4000 rfl (by (simp [-List.getD_eq_getElem?_getD, -List.length_eq_zero_iff, conjP] <;> (first | omega | ((repeat' (refine And.intro ?_ ?_)) <;> (first | omega | exact decide_eq_false (by omega) | exact decide_eq_true (by omega)))))) ?_
  refine sx hX [.F] 4000 rfl (by (simp [-List.getD_eq_getElem?_getD, -List.length_eq_zero_iff, conjP, getH, HE.so, hin, hin1, r1, r2, hl, w0, w1, s0, s1, rdP, rdE, slV, ok, hr, e0] <;> (first | omega | ((repeat' (refine And.intro ?_ ?_)) <;> (first | omega | exact decide_eq_false (by omega) | exact decide_eq_true (by omega)))))) ?_
  (refine ss_raw hX 11 3 rfl rfl fun v => ?_; refine J _ ⟨i + 1, ⟨W, st + 1, 1, r.wd, r.vl, false, stb, kdb, wdb, vlb, chb, true, n, c0, c1, c2, some ⟨ep, r.nx, r.sn, r.fl, r.tm, (some [r.vl])⟩, p0, q0, p1, q1, p2, q2, p3, v, d0, d1, d2, d3⟩⟩ ?iv rfl _ _ _ (sub_of [0, 1, 2, 3, 4, 5, 21, 7, 8, 9, 10, 11, 12, 13, 14, 15, 16, 17, 18, 20] rfl rfl rfl rfl ?tt ?hh (by (repeat' (first | exact rfl | exact trivial | exact sim_refl _ | refine And.intro ?_ ?_))) ?ok); (case tt => simp only [ewi]; (repeat' (first | exact rfl | exact trivial | exact sim_refl _ | refine And.intro ?_ ?_)); done); (case hh => (((repeat' (first | exact rfl | exact trivial | exact sim_refl _ | exact simO_refl _ | exact subE_same rfl ren_wlE | exact subE_same rfl ren_rlE | exact subE_same rfl ren_bwE | exact subE_wrE rfl rfl | exact subE_rdE rfl rfl | exact sim_wrP rfl | exact sim_rdP rfl | exact sim_bsV rfl | assumption | refine And.intro ?_ ?_)); done))); (case ok => (((repeat' (first | exact rfl | exact trivial | exact okE_wlE | exact okE_rlE | exact okE_bwE | exact okE_wrE rfl | exact okE_rdE rfl | exact okP_wrP (i := 13) rfl | exact okP_wrP (i := 15) rfl | exact okP_rdP (i := 17) rfl | exact okP_rdP (i := 19) rfl | refine And.intro ?_ ?_)); done))); (case iv => exact AInv.next h (BInv.nx b hLn hWn (b.o0) (b.o1) (b.o2) (okn)) (by dsimp only; omega) (by dsimp only; omega) (m)))
set_option maxHeartbeats 4000000 in
theorem ar3s0 (h : AInv R N x) (hin : x.i < N) (hi : x.i < 100) (ha : a3 (o x.i).1 = 3) (hb : bkB (o x.i).1 (o x.i).2 (hdO x.z.c0) (hdO x.z.c1) = false) {r : RR} {ep nx sn fl tm : Int} {l : List Int} (hc : x.z.c3 = some ⟨ep, nx, sn, fl, tm, (some l)⟩) (hr : rStep R ⟨ep, nx, sn, fl, tm, (some l)⟩ x.z.W x.z.st = r) (e0 : r.k = 0)
    (J : ∀ p, AJ3 p R q N cap o x ρ w I) : ∃ p, AG3 p R q N cap o x ρ w I := by
  have F := h.facts hin hi
  obtain ⟨i, ⟨W, st, kd, wd, vl, ch, stb, kdb, wdb, vlb, chb, f, n, c0, c1, c2, c3, p0, q0, p1, q1, p2, q2, p3, q3, d0, d1, d2, d3⟩⟩ := x
  dsimp only at hin hi ha hb hc hr F
  subst hc
  have b := h.b
  have m := h.m
  obtain ⟨hin1, hi1, ewi, r1, r2, hl, hl16, w0, w1, s0, s1, n0, n1⟩ := F
  have n2 : n < 1000000 := by omega
  have hcm := a3_cases (o i).2
  have ok : ROk R ⟨ep, nx, sn, fl, tm, (some l)⟩ := b.o3
  have aft := rAft (st := st) ok w0 w1
  rw [hr] at aft
  have hLn := hl
  have hLr := hl.symm
  have hWn := b.hw
  have okn := aft.go (.inl e0)
  obtain ⟨e4, e3, e2, e1, _⟩ := aft.lk e0
  rw [e3] at okn
  refine ⟨⟨f, c0, c1, false, 3, false, 0, w00, r⟩, ?_⟩
  have hX := hXTu ⟨f, c0, c1, false, 3, false, 0, w00, r⟩
  dsimp only [AG3, alT, alH, wdH]
  refine sxb hX [.r 9] [] 4000 rfl (by first | exact trivial | simp [conjP]) ?_
  refine sxb hX [.r 9] [.T, .T] 4000 rfl (by simp [conjP, hin, hin1, hi1, hb]) ?_
  simp only [Int.toNat_natCast, ha]
  refine sx hX [] 4000 rfl (by (simp [-List.getD_eq_getElem?_getD, -List.length_eq_zero_iff, conjP] <;> (first | omega | ((repeat' (refine And.intro ?_ ?_)) <;> (first | omega | exact decide_eq_false (by omega) | exact decide_eq_true (by omega)))))) ?_
  refine sx hX [.F] 4000 rfl (by (simp [-List.getD_eq_getElem?_getD, -List.length_eq_zero_iff, conjP, getH, HE.so, hin, hin1, r1, r2, hl, w0, w1, s0, s1, rdP, rdE, slV, ok, hr, e0] <;> (first | omega | ((repeat' (refine And.intro ?_ ?_)) <;> (first | omega | exact decide_eq_false (by omega) | exact decide_eq_true (by omega)))))) ?_
  (refine ss_raw hX 11 3 rfl rfl fun v => ?_; refine J _ ⟨i + 1, ⟨W, st + 1, 1, r.wd, r.vl, false, stb, kdb, wdb, vlb, chb, true, n, c0, c1, c2, some ⟨ep, r.nx, r.sn, r.fl, r.tm, none⟩, p0, q0, p1, q1, p2, q2, p3, v, d0, d1, d2, d3⟩⟩ ?iv rfl _ _ _ (sub_of [0, 1, 2, 3, 4, 5, 20, 7, 8, 9, 10, 11, 12, 13, 14, 15, 16, 17, 18, 61] rfl rfl rfl rfl ?tt ?hh (by (repeat' (first | exact rfl | exact trivial | exact sim_refl _ | refine And.intro ?_ ?_))) ?ok); (case tt => simp only [ewi]; (repeat' (first | exact rfl | exact trivial | exact sim_refl _ | refine And.intro ?_ ?_)); done); (case hh => (((repeat' (first | exact rfl | exact trivial | exact sim_refl _ | exact simO_refl _ | exact subE_same rfl ren_wlE | exact subE_same rfl ren_rlE | exact subE_same rfl ren_bwE | exact subE_wrE rfl rfl | exact subE_rdE rfl rfl | exact sim_wrP rfl | exact sim_rdP rfl | exact sim_bsV rfl | assumption | refine And.intro ?_ ?_)); done))); (case ok => (((repeat' (first | exact rfl | exact trivial | exact okE_wlE | exact okE_rlE | exact okE_bwE | exact okE_wrE rfl | exact okE_rdE rfl | exact okP_wrP (i := 13) rfl | exact okP_wrP (i := 15) rfl | exact okP_rdP (i := 17) rfl | exact okP_rdP (i := 19) rfl | refine And.intro ?_ ?_)); done))); (case iv => exact AInv.next h (BInv.nx b hLn hWn (b.o0) (b.o1) (b.o2) (okn)) (by dsimp only; omega) (by dsimp only; omega) (m)))
set_option maxHeartbeats 4000000 in
theorem ar3s1 (h : AInv R N x) (hin : x.i < N) (hi : x.i < 100) (ha : a3 (o x.i).1 = 3) (hb : bkB (o x.i).1 (o x.i).2 (hdO x.z.c0) (hdO x.z.c1) = false) {r : RR} {ep nx sn fl tm : Int} {l : List Int} (hc : x.z.c3 = some ⟨ep, nx, sn, fl, tm, (some l)⟩) (hr : rStep R ⟨ep, nx, sn, fl, tm, (some l)⟩ x.z.W x.z.st = r) (e0 : r.k = 1)
    (J : ∀ p, AJ3 p R q N cap o x ρ w I) : ∃ p, AG3 p R q N cap o x ρ w I := by
  have F := h.facts hin hi
  obtain ⟨i, ⟨W, st, kd, wd, vl, ch, stb, kdb, wdb, vlb, chb, f, n, c0, c1, c2, c3, p0, q0, p1, q1, p2, q2, p3, q3, d0, d1, d2, d3⟩⟩ := x
  dsimp only at hin hi ha hb hc hr F
  subst hc
  have b := h.b
  have m := h.m
  obtain ⟨hin1, hi1, ewi, r1, r2, hl, hl16, w0, w1, s0, s1, n0, n1⟩ := F
  have n2 : n < 1000000 := by omega
  have hcm := a3_cases (o i).2
  have ok : ROk R ⟨ep, nx, sn, fl, tm, (some l)⟩ := b.o3
  have aft := rAft (st := st) ok w0 w1
  rw [hr] at aft
  have hLn := hl
  have hLr := hl.symm
  have hWn := b.hw
  refine ⟨⟨f, c0, c1, false, 3, false, 1, w00, r⟩, ?_⟩
  have hX := hXTu ⟨f, c0, c1, false, 3, false, 1, w00, r⟩
  dsimp only [AG3, alT, alH, wdH]
  refine sxb hX [.r 9] [] 4000 rfl (by first | exact trivial | simp [conjP]) ?_
  refine sxb hX [.r 9] [.T, .T] 4000 rfl (by simp [conjP, hin, hin1, hi1, hb]) ?_
  simp only [Int.toNat_natCast, ha]
  refine sx hX [] 4000 rfl (by (simp [-List.getD_eq_getElem?_getD, -List.length_eq_zero_iff, conjP] <;> (first | omega | ((repeat' (refine And.intro ?_ ?_)) <;> (first | omega | exact decide_eq_false (by omega) | exact decide_eq_true (by omega)))))) ?_
  refine sx hX [.F] 4000 rfl (by (simp [-List.getD_eq_getElem?_getD, -List.length_eq_zero_iff, conjP, getH, HE.so, hin, hin1, r1, r2, hl, w0, w1, s0, s1, rdP, rdE, slV, ok, hr, e0] <;> (first | omega | ((repeat' (refine And.intro ?_ ?_)) <;> (first | omega | exact decide_eq_false (by omega) | exact decide_eq_true (by omega)))))) ?_
  (refine ss_raw hX 11 3 rfl rfl fun v => ?_; refine J _ ⟨i + 1, ⟨W, st + 1, 1, r.wd, r.vl, false, stb, kdb, wdb, vlb, chb, true, n, c0, c1, c2, none, p0, q0, p1, q1, p2, q2, p3, v, d0, d1, d2, d3⟩⟩ ?iv rfl _ _ _ (sub_of [0, 1, 2, 3, 4, 5, 20, 7, 8, 9, 10, 11, 12, 13, 14, 15, 16, 17, 60, 61] rfl rfl rfl rfl ?tt ?hh (by (repeat' (first | exact rfl | exact trivial | exact sim_refl _ | refine And.intro ?_ ?_))) ?ok); (case tt => simp only [ewi]; (repeat' (first | exact rfl | exact trivial | exact sim_refl _ | refine And.intro ?_ ?_)); done); (case hh => (((repeat' (first | exact rfl | exact trivial | exact sim_refl _ | exact simO_refl _ | exact subE_same rfl ren_wlE | exact subE_same rfl ren_rlE | exact subE_same rfl ren_bwE | exact subE_wrE rfl rfl | exact subE_rdE rfl rfl | exact sim_wrP rfl | exact sim_rdP rfl | exact sim_bsV rfl | assumption | refine And.intro ?_ ?_)); done))); (case ok => (((repeat' (first | exact rfl | exact trivial | exact okE_wlE | exact okE_rlE | exact okE_bwE | exact okE_wrE rfl | exact okE_rdE rfl | exact okP_wrP (i := 13) rfl | exact okP_wrP (i := 15) rfl | exact okP_rdP (i := 17) rfl | exact okP_rdP (i := 19) rfl | refine And.intro ?_ ?_)); done))); (case iv => exact AInv.next h (BInv.nx b hLn hWn (b.o0) (b.o1) (b.o2) (trivial)) (by dsimp only; omega) (by dsimp only; omega) (m)))
set_option maxHeartbeats 4000000 in
theorem ar3s3 (h : AInv R N x) (hin : x.i < N) (hi : x.i < 100) (ha : a3 (o x.i).1 = 3) (hb : bkB (o x.i).1 (o x.i).2 (hdO x.z.c0) (hdO x.z.c1) = false) {r : RR} {ep nx sn fl tm : Int} {l : List Int} (hc : x.z.c3 = some ⟨ep, nx, sn, fl, tm, (some l)⟩) (hr : rStep R ⟨ep, nx, sn, fl, tm, (some l)⟩ x.z.W x.z.st = r) (e0 : r.k = 3)
    (J : ∀ p, AJ3 p R q N cap o x ρ w I) : ∃ p, AG3 p R q N cap o x ρ w I := by
  have F := h.facts hin hi
  obtain ⟨i, ⟨W, st, kd, wd, vl, ch, stb, kdb, wdb, vlb, chb, f, n, c0, c1, c2, c3, p0, q0, p1, q1, p2, q2, p3, q3, d0, d1, d2, d3⟩⟩ := x
  dsimp only at hin hi ha hb hc hr F
  subst hc
  have b := h.b
  have m := h.m
  obtain ⟨hin1, hi1, ewi, r1, r2, hl, hl16, w0, w1, s0, s1, n0, n1⟩ := F
  have n2 : n < 1000000 := by omega
  have hcm := a3_cases (o i).2
  have ok : ROk R ⟨ep, nx, sn, fl, tm, (some l)⟩ := b.o3
  have aft := rAft (st := st) ok w0 w1
  rw [hr] at aft
  have hLn := hl
  have hLr := hl.symm
  have hWn := b.hw
  have hwl : (l ++ [r.vl]).length = l.length + 1 := by simp
  have hwr := hwl.symm
  have okn := aft.go (.inr (.inl e0))
  obtain ⟨e4, e2, e1, _, _, e3, _⟩ := aft.wd e0
  rw [e3] at okn
  refine ⟨⟨f, c0, c1, false, 3, false, 3, w00, r⟩, ?_⟩
  have hX := hXTu ⟨f, c0, c1, false, 3, false, 3, w00, r⟩
  dsimp only [AG3, alT, alH, wdH]
  refine sxb hX [.r 9] [] 4000 rfl (by first | exact trivial | simp [conjP]) ?_
  refine sxb hX [.r 9] [.T, .T] 4000 rfl (by simp [conjP, hin, hin1, hi1, hb]) ?_
  simp only [Int.toNat_natCast, ha]
  refine sx hX [] 4000 rfl (by (simp [-List.getD_eq_getElem?_getD, -List.length_eq_zero_iff, conjP] <;> (first | omega | ((repeat' (refine And.intro ?_ ?_)) <;> (first | omega | exact decide_eq_false (by omega) | exact decide_eq_true (by omega)))))) ?_
  refine sx hX [.F] 4000 rfl (by (simp [-List.getD_eq_getElem?_getD, -List.length_eq_zero_iff, conjP, getH, HE.so, hin, hin1, r1, r2, hl, w0, w1, s0, s1, rdP, rdE, slV, ok, hr, e0] <;> (first | omega | ((repeat' (refine And.intro ?_ ?_)) <;> (first | omega | exact decide_eq_false (by omega) | exact decide_eq_true (by omega)))))) ?_
  (refine ss_raw hX 11 3 rfl rfl fun v => ?_; refine J _ ⟨i + 1, ⟨W, st + 1, 1, r.wd, r.vl, false, stb, kdb, wdb, vlb, chb, true, n, c0, c1, c2, some ⟨ep, r.nx, r.sn, r.fl, r.tm, (some (l ++ [r.vl]))⟩, p0, q0, p1, q1, p2, q2, p3, v, d0, d1, d2, d3⟩⟩ ?iv rfl _ _ _ (sub_of [0, 1, 2, 3, 4, 5, 21, 7, 8, 9, 10, 11, 12, 13, 14, 15, 16, 17, 18, 20] rfl rfl rfl rfl ?tt ?hh (by (repeat' (first | exact rfl | exact trivial | exact sim_refl _ | refine And.intro ?_ ?_))) ?ok); (case tt => simp only [ewi]; (repeat' (first | exact rfl | exact trivial | exact sim_refl _ | refine And.intro ?_ ?_)); done); (case hh => (((repeat' (first | exact rfl | exact trivial | exact sim_refl _ | exact simO_refl _ | exact subE_same rfl ren_wlE | exact subE_same rfl ren_rlE | exact subE_same rfl ren_bwE | exact subE_wrE rfl rfl | exact subE_rdE rfl rfl | exact sim_wrP rfl | exact sim_rdP rfl | exact sim_bsV rfl | assumption | refine And.intro ?_ ?_)); done))); (case ok => (((repeat' (first | exact rfl | exact trivial | exact okE_wlE | exact okE_rlE | exact okE_bwE | exact okE_wrE rfl | exact okE_rdE rfl | exact okP_wrP (i := 13) rfl | exact okP_wrP (i := 15) rfl | exact okP_rdP (i := 17) rfl | exact okP_rdP (i := 19) rfl | refine And.intro ?_ ?_)); done))); (case iv => exact AInv.next h (BInv.nx b hLn hWn (b.o0) (b.o1) (b.o2) (okn)) (by dsimp only; omega) (by dsimp only; omega) (m)))
set_option maxHeartbeats 4000000 in
theorem ar3s2 (h : AInv R N x) (hin : x.i < N) (hi : x.i < 100) (ha : a3 (o x.i).1 = 3) (hb : bkB (o x.i).1 (o x.i).2 (hdO x.z.c0) (hdO x.z.c1) = false) {r : RR} {ep nx sn fl tm : Int} {l : List Int} (hc : x.z.c3 = some ⟨ep, nx, sn, fl, tm, (some l)⟩) (hr : rStep R ⟨ep, nx, sn, fl, tm, (some l)⟩ x.z.W x.z.st = r) (e0 : r.k = 2)
    (J : ∀ p, AJ3 p R q N cap o x ρ w I) : ∃ p, AG3 p R q N cap o x ρ w I := by
  have F := h.facts hin hi
  obtain ⟨i, ⟨W, st, kd, wd, vl, ch, stb, kdb, wdb, vlb, chb, f, n, c0, c1, c2, c3, p0, q0, p1, q1, p2, q2, p3, q3, d0, d1, d2, d3⟩⟩ := x
  dsimp only at hin hi ha hb hc hr F
  subst hc
  have b := h.b
  have m := h.m
  obtain ⟨hin1, hi1, ewi, r1, r2, hl, hl16, w0, w1, s0, s1, n0, n1⟩ := F
  have n2 : n < 1000000 := by omega
  have hcm := a3_cases (o i).2
  have ok : ROk R ⟨ep, nx, sn, fl, tm, (some l)⟩ := b.o3
  have aft := rAft (st := st) ok w0 w1
  rw [hr] at aft
  have hLn := hl
  have hLr := hl.symm
  have hWn := b.hw
  refine ⟨⟨f, c0, c1, false, 3, false, 2, w00, r⟩, ?_⟩
  have hX := hXTu ⟨f, c0, c1, false, 3, false, 2, w00, r⟩
  dsimp only [AG3, alT, alH, wdH]
  refine sxb hX [.r 9] [] 4000 rfl (by first | exact trivial | simp [conjP]) ?_
  refine sxb hX [.r 9] [.T, .T] 4000 rfl (by simp [conjP, hin, hin1, hi1, hb]) ?_
  simp only [Int.toNat_natCast, ha]
  refine sx hX [] 4000 rfl (by (simp [-List.getD_eq_getElem?_getD, -List.length_eq_zero_iff, conjP] <;> (first | omega | ((repeat' (refine And.intro ?_ ?_)) <;> (first | omega | exact decide_eq_false (by omega) | exact decide_eq_true (by omega)))))) ?_
  refine sx hX [.F] 4000 rfl (by (simp [-List.getD_eq_getElem?_getD, -List.length_eq_zero_iff, conjP, getH, HE.so, hin, hin1, r1, r2, hl, w0, w1, s0, s1, rdP, rdE, slV, ok, hr, e0] <;> (first | omega | ((repeat' (refine And.intro ?_ ?_)) <;> (first | omega | exact decide_eq_false (by omega) | exact decide_eq_true (by omega)))))) ?_
  (refine ss_raw hX 11 3 rfl rfl fun v => ?_; refine J _ ⟨i + 1, ⟨W, st + 1, 1, r.wd, r.vl, false, stb, kdb, wdb, vlb, chb, true, n, c0, c1, c2, none, p0, q0, p1, q1, p2, q2, p3, v, d0, d1, d2, d3⟩⟩ ?iv rfl _ _ _ (sub_of [0, 1, 2, 3, 4, 5, 20, 7, 8, 9, 10, 11, 12, 13, 14, 15, 16, 17, 60, 61] rfl rfl rfl rfl ?tt ?hh (by (repeat' (first | exact rfl | exact trivial | exact sim_refl _ | refine And.intro ?_ ?_))) ?ok); (case tt => simp only [ewi]; (repeat' (first | exact rfl | exact trivial | exact sim_refl _ | refine And.intro ?_ ?_)); done); (case hh => (((repeat' (first | exact rfl | exact trivial | exact sim_refl _ | exact simO_refl _ | exact subE_same rfl ren_wlE | exact subE_same rfl ren_rlE | exact subE_same rfl ren_bwE | exact subE_wrE rfl rfl | exact subE_rdE rfl rfl | exact sim_wrP rfl | exact sim_rdP rfl | exact sim_bsV rfl | assumption | refine And.intro ?_ ?_)); done))); (case ok => (((repeat' (first | exact rfl | exact trivial | exact okE_wlE | exact okE_rlE | exact okE_bwE | exact okE_wrE rfl | exact okE_rdE rfl | exact okP_wrP (i := 13) rfl | exact okP_wrP (i := 15) rfl | exact okP_rdP (i := 17) rfl | exact okP_rdP (i := 19) rfl | refine And.intro ?_ ?_)); done))); (case iv => exact AInv.next h (BInv.nx b hLn hWn (b.o0) (b.o1) (b.o2) (trivial)) (by dsimp only; omega) (by dsimp only; omega) (m)))
set_option maxHeartbeats 4000000 in
theorem ar3s4 (h : AInv R N x) (hin : x.i < N) (hi : x.i < 100) (ha : a3 (o x.i).1 = 3) (hb : bkB (o x.i).1 (o x.i).2 (hdO x.z.c0) (hdO x.z.c1) = false) {r : RR} {ep nx sn fl tm : Int} {l : List Int} (hc : x.z.c3 = some ⟨ep, nx, sn, fl, tm, (some l)⟩) (hr : rStep R ⟨ep, nx, sn, fl, tm, (some l)⟩ x.z.W x.z.st = r) (e0 : r.k = 4)
    (J : ∀ p, AJ3 p R q N cap o x ρ w I) : ∃ p, AG3 p R q N cap o x ρ w I := by
  have F := h.facts hin hi
  obtain ⟨i, ⟨W, st, kd, wd, vl, ch, stb, kdb, wdb, vlb, chb, f, n, c0, c1, c2, c3, p0, q0, p1, q1, p2, q2, p3, q3, d0, d1, d2, d3⟩⟩ := x
  dsimp only at hin hi ha hb hc hr F
  subst hc
  have b := h.b
  have m := h.m
  obtain ⟨hin1, hi1, ewi, r1, r2, hl, hl16, w0, w1, s0, s1, n0, n1⟩ := F
  have n2 : n < 1000000 := by omega
  have hcm := a3_cases (o i).2
  have ok : ROk R ⟨ep, nx, sn, fl, tm, (some l)⟩ := b.o3
  have aft := rAft (st := st) ok w0 w1
  rw [hr] at aft
  have hLn := hl
  have hLr := hl.symm
  have hWn := b.hw
  have okn := aft.go (.inr (.inr e0))
  obtain ⟨e4, e3, e1, e2⟩ := aft.fa (.inl e0)
  rw [e2] at okn
  refine ⟨⟨f, c0, c1, false, 3, false, 4, w00, r⟩, ?_⟩
  have hX := hXTu ⟨f, c0, c1, false, 3, false, 4, w00, r⟩
  dsimp only [AG3, alT, alH, wdH]
  refine sxb hX [.r 9] [] 4000 rfl (by first | exact trivial | simp [conjP]) ?_
  refine sxb hX [.r 9] [.T, .T] 4000 rfl (by simp [conjP, hin, hin1, hi1, hb]) ?_
  simp only [Int.toNat_natCast, ha]
  refine sx hX [] 4000 rfl (by (simp [-List.getD_eq_getElem?_getD, -List.length_eq_zero_iff, conjP] <;> (first | omega | ((repeat' (refine And.intro ?_ ?_)) <;> (first | omega | exact decide_eq_false (by omega) | exact decide_eq_true (by omega)))))) ?_
  refine sx hX [.F] 4000 rfl (by (simp [-List.getD_eq_getElem?_getD, -List.length_eq_zero_iff, conjP, getH, HE.so, hin, hin1, r1, r2, hl, w0, w1, s0, s1, rdP, rdE, slV, ok, hr, e0] <;> (first | omega | ((repeat' (refine And.intro ?_ ?_)) <;> (first | omega | exact decide_eq_false (by omega) | exact decide_eq_true (by omega)))))) ?_
  (refine ss_raw hX 11 3 rfl rfl fun v => ?_; refine J _ ⟨i + 1, ⟨W, st + 1, 1, r.wd, r.vl, false, stb, kdb, wdb, vlb, chb, true, n, c0, c1, c2, some ⟨ep, r.nx, r.sn, r.fl, r.tm, some l⟩, p0, q0, p1, q1, p2, q2, p3, v, d0, d1, d2, d3⟩⟩ ?iv rfl _ _ _ (sub_of [0, 1, 2, 3, 4, 5, 20, 7, 8, 9, 10, 11, 12, 13, 14, 15, 16, 17, 18, 19] rfl rfl rfl rfl ?tt ?hh (by (repeat' (first | exact rfl | exact trivial | exact sim_refl _ | refine And.intro ?_ ?_))) ?ok); (case tt => simp only [ewi]; (repeat' (first | exact rfl | exact trivial | exact sim_refl _ | refine And.intro ?_ ?_)); done); (case hh => (((repeat' (first | exact rfl | exact trivial | exact sim_refl _ | exact simO_refl _ | exact subE_same rfl ren_wlE | exact subE_same rfl ren_rlE | exact subE_same rfl ren_bwE | exact subE_wrE rfl rfl | exact subE_rdE rfl rfl | exact sim_wrP rfl | exact sim_rdP rfl | exact sim_bsV rfl | assumption | refine And.intro ?_ ?_)); done))); (case ok => (((repeat' (first | exact rfl | exact trivial | exact okE_wlE | exact okE_rlE | exact okE_bwE | exact okE_wrE rfl | exact okE_rdE rfl | exact okP_wrP (i := 13) rfl | exact okP_wrP (i := 15) rfl | exact okP_rdP (i := 17) rfl | exact okP_rdP (i := 19) rfl | refine And.intro ?_ ?_)); done))); (case iv => exact AInv.next h (BInv.nx b hLn hWn (b.o0) (b.o1) (b.o2) (okn)) (by dsimp only; omega) (by dsimp only; omega) (m)))
set_option maxHeartbeats 4000000 in
theorem ar3s5 (h : AInv R N x) (hin : x.i < N) (hi : x.i < 100) (ha : a3 (o x.i).1 = 3) (hb : bkB (o x.i).1 (o x.i).2 (hdO x.z.c0) (hdO x.z.c1) = false) {r : RR} {ep nx sn fl tm : Int} {l : List Int} (hc : x.z.c3 = some ⟨ep, nx, sn, fl, tm, (some l)⟩) (hr : rStep R ⟨ep, nx, sn, fl, tm, (some l)⟩ x.z.W x.z.st = r) (e0 : r.k = 5)
    (J : ∀ p, AJ3 p R q N cap o x ρ w I) : ∃ p, AG3 p R q N cap o x ρ w I := by
  have F := h.facts hin hi
  obtain ⟨i, ⟨W, st, kd, wd, vl, ch, stb, kdb, wdb, vlb, chb, f, n, c0, c1, c2, c3, p0, q0, p1, q1, p2, q2, p3, q3, d0, d1, d2, d3⟩⟩ := x
  dsimp only at hin hi ha hb hc hr F
  subst hc
  have b := h.b
  have m := h.m
  obtain ⟨hin1, hi1, ewi, r1, r2, hl, hl16, w0, w1, s0, s1, n0, n1⟩ := F
  have n2 : n < 1000000 := by omega
  have hcm := a3_cases (o i).2
  have ok : ROk R ⟨ep, nx, sn, fl, tm, (some l)⟩ := b.o3
  have aft := rAft (st := st) ok w0 w1
  rw [hr] at aft
  have hLn := hl
  have hLr := hl.symm
  have hWn := b.hw
  refine ⟨⟨f, c0, c1, false, 3, false, 5, w00, r⟩, ?_⟩
  have hX := hXTu ⟨f, c0, c1, false, 3, false, 5, w00, r⟩
  dsimp only [AG3, alT, alH, wdH]
  refine sxb hX [.r 9] [] 4000 rfl (by first | exact trivial | simp [conjP]) ?_
  refine sxb hX [.r 9] [.T, .T] 4000 rfl (by simp [conjP, hin, hin1, hi1, hb]) ?_
  simp only [Int.toNat_natCast, ha]
  refine sx hX [] 4000 rfl (by (simp [-List.getD_eq_getElem?_getD, -List.length_eq_zero_iff, conjP] <;> (first | omega | ((repeat' (refine And.intro ?_ ?_)) <;> (first | omega | exact decide_eq_false (by omega) | exact decide_eq_true (by omega)))))) ?_
  refine sx hX [.F] 4000 rfl (by (simp [-List.getD_eq_getElem?_getD, -List.length_eq_zero_iff, conjP, getH, HE.so, hin, hin1, r1, r2, hl, w0, w1, s0, s1, rdP, rdE, slV, ok, hr, e0] <;> (first | omega | ((repeat' (refine And.intro ?_ ?_)) <;> (first | omega | exact decide_eq_false (by omega) | exact decide_eq_true (by omega)))))) ?_
  (refine ss_raw hX 11 3 rfl rfl fun v => ?_; refine J _ ⟨i + 1, ⟨W, st + 1, 1, r.wd, r.vl, false, stb, kdb, wdb, vlb, chb, true, n, c0, c1, c2, none, p0, q0, p1, q1, p2, q2, p3, v, d0, d1, d2, d3⟩⟩ ?iv rfl _ _ _ (sub_of [0, 1, 2, 3, 4, 5, 20, 7, 8, 9, 10, 11, 12, 13, 14, 15, 16, 17, 60, 61] rfl rfl rfl rfl ?tt ?hh (by (repeat' (first | exact rfl | exact trivial | exact sim_refl _ | refine And.intro ?_ ?_))) ?ok); (case tt => simp only [ewi]; (repeat' (first | exact rfl | exact trivial | exact sim_refl _ | refine And.intro ?_ ?_)); done); (case hh => (((repeat' (first | exact rfl | exact trivial | exact sim_refl _ | exact simO_refl _ | exact subE_same rfl ren_wlE | exact subE_same rfl ren_rlE | exact subE_same rfl ren_bwE | exact subE_wrE rfl rfl | exact subE_rdE rfl rfl | exact sim_wrP rfl | exact sim_rdP rfl | exact sim_bsV rfl | assumption | refine And.intro ?_ ?_)); done))); (case ok => (((repeat' (first | exact rfl | exact trivial | exact okE_wlE | exact okE_rlE | exact okE_bwE | exact okE_wrE rfl | exact okE_rdE rfl | exact okP_wrP (i := 13) rfl | exact okP_wrP (i := 15) rfl | exact okP_rdP (i := 17) rfl | exact okP_rdP (i := 19) rfl | refine And.intro ?_ ?_)); done))); (case iv => exact AInv.next h (BInv.nx b hLn hWn (b.o0) (b.o1) (b.o2) (trivial)) (by dsimp only; omega) (by dsimp only; omega) (m)))
end
end Go.Proofs.YtmghcelohnlceaaGreatDoor
