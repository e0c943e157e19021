/- SmallPlays: client 2 has its turn. -/
import Derived.Test.YtmghcelohnlceaaGreatDoorPlaysBegin
namespace Go.Proofs.YtmghcelohnlceaaGreatDoor
open Go Go.Hx
set_option maxRecDepth 8000
section
variable {R : Int} {N cap : Nat} {o : Nat → Int × Int} {x : YS} {ρ : Nat → Nat × Nat} {w : World} {I : Act → World → Prop}

set_option maxHeartbeats 8000000 in
theorem yr2n0 (h : YInv R N 1 x) (hin : x.i < N) (hi : x.i < 150) {r : RR} {ep nx sn fl tm : Int} (hc : x.z.c2 = some ⟨ep, nx, sn, fl, tm, none⟩) (hr : rStep R ⟨ep, nx, sn, fl, tm, none⟩ x.z.W x.z.st = r) (e0 : r.k = 0) (J : ∀ p, YJ p R N cap o x ρ w I) : ∃ p, YKw p 2 10 R N cap o x ρ w I := by
  have F := h.facts hin hi
  obtain ⟨i, ⟨W, st, kd, wd, vl, ch, stb, kdb, wdb, vlb, chb, f, n, c0, c1, c2, c3, p0, q0, p1, q1, p2, q2, p3, q3, d0, d1, d2, d3⟩⟩ := x
  dsimp only at hin hi hc hr F
  subst hc
  have b := h.b
  obtain ⟨hin1, hi1, ewi, r1, r2, hl, hl16, w0, w1, s0, s1, n0, n1⟩ := F
  have ok : ROk R ⟨ep, nx, sn, fl, tm, none⟩ := b.o2
  have aft := rAft (st := st) ok w0 w1
  have hend := rEnd (st := st) (W := W) ok
  rw [hr] at aft hend
  have hLn := hl
  have hLr := hl.symm
  have hWn := b.hw
  have okn := aft.go (.inl e0)
  obtain ⟨e4, e3, e2, e1, _⟩ := aft.lk e0
  rw [e3] at okn
  have hnx : ¬ r.nx = 0 := by rcases okn.nxc with q | q | q <;> (dsimp only at q; omega)
  have hc0 : r.c = 0 := rC hr (by omega) (by omega)
  refine ⟨⟨c0, c1, p0, p1, false, 2, false, 0, w00, r, ⟨R, ⟨0, 0, 0, 0, 0, 0, false, []⟩, ⟨ep, nx, sn, fl, tm, none⟩, 25, W, st, kd, wd, vl, ch⟩⟩, ?_⟩
  have hX := hXTy ⟨c0, c1, p0, p1, false, 2, false, 0, w00, r, ⟨R, ⟨0, 0, 0, 0, 0, 0, false, []⟩, ⟨ep, nx, sn, fl, tm, none⟩, 25, W, st, kd, wd, vl, ch⟩⟩
  dsimp only [YKw, ykT, yH, ypH]
  refine sx hX [] 4000 rfl (by (simp [-List.getD_eq_getElem?_getD, -List.length_eq_zero_iff, conjP, r1, r2, hl, w0, w1, s0, s1, slV, ok, hr, e0])) ?_
  refine sx hX [.K, .T, .K, .K, .K, .T] 4000 rfl (by (simp [-List.getD_eq_getElem?_getD, -List.length_eq_zero_iff, conjP, getH, HE.so, r1, r2, hl, w0, w1, s0, s1, rdP, drP, drE, slV, ok, hr, e0, hnx, hc0])) ?_
  refine sx hX [.T] 4000 rfl (by (simp [-List.getD_eq_getElem?_getD, -List.length_eq_zero_iff, conjP, addOP, hnx])) ?_
  refine sx hX [.F] 4000 rfl (by (simp [-List.getD_eq_getElem?_getD, -List.length_eq_zero_iff, conjP])) ?_
  refine sx hX [.F] 4000 rfl (by (simp [-List.getD_eq_getElem?_getD, -List.length_eq_zero_iff, conjP, addOP])) ?_
  refine sx hX [.F] 4000 rfl (by (simp [-List.getD_eq_getElem?_getD, -List.length_eq_zero_iff, conjP, addOP])) ?_
  refine sx hX [.T] 4000 rfl (by (simp [-List.getD_eq_getElem?_getD, -List.length_eq_zero_iff, conjP, addOP, hnx])) ?_
  refine sx hX [.F] 4000 rfl (by (simp [-List.getD_eq_getElem?_getD, -List.length_eq_zero_iff, conjP, addOP])) ?_
  refine sx hX [.K, .K, .F, .K, .K, .F] 4000 rfl (by (simp [-List.getD_eq_getElem?_getD, -List.length_eq_zero_iff, conjP, getH, HE.so, hl])) ?_
  refine sx hX [.F] 4000 rfl (by (simp [-List.getD_eq_getElem?_getD, -List.length_eq_zero_iff, conjP, addOP])) ?_
  (simp only [hc0]; refine J _ ⟨i + 1, ⟨W, st + 1, 1, r.wd, r.vl, false, stb, kdb, wdb, vlb, chb, f, n, c0, c1, some ⟨ep, r.nx, r.sn, r.fl, r.tm, none⟩, c3, p0, q0, p1, q1, p2, q2, p3, q3, d0, d1, d2, d3⟩⟩ ?iv rfl _ _ _ (sub_of [0, 1, 2, 3, 4, 5, 6, 7, 8, 9, 10, 11, 12, 13, 14, 15, 16, 61, 18, 19, 20, 21, 22, 23, 24, 62, 26, 27] rfl rfl rfl rfl ?tt ?hh ?ot ?ok); (case tt => simp only [ewi]; (exact clhY)); (case hh => (exact clhY)); (case ot => (exact clkY)); (case ok => (exact clkY)); (case iv => exact ⟨(BInv.nx (z' := ⟨W, st + 1, 1, r.wd, r.vl, false, stb, kdb, wdb, vlb, chb, f, n, c0, c1, some ⟨ep, r.nx, r.sn, r.fl, r.tm, none⟩, c3, p0, q0, p1, q1, p2, q2, p3, q3, d0, d1, d2, d3⟩) b hLn hWn (b.o0) (b.o1) (okn) (b.o3) (hi := by show 2 * i + 1 + 1 ≤ 10000; omega)).mono (by show 2 * i + 1 + 1 ≤ 2 * (i + 1) + 0; omega) (by show 2 * (i + 1) + 0 ≤ 10000; omega), by show i + 1 + 0 ≤ N; omega, by show i + 1 + 0 ≤ 150; omega⟩))
set_option maxHeartbeats 8000000 in
theorem yr2n1 (h : YInv R N 1 x) (hin : x.i < N) (hi : x.i < 150) {r : RR} {ep nx sn fl tm : Int} (hc : x.z.c2 = some ⟨ep, nx, sn, fl, tm, none⟩) (hr : rStep R ⟨ep, nx, sn, fl, tm, none⟩ x.z.W x.z.st = r) (e0 : r.k = 1) (J : ∀ p, YJ p R N cap o x ρ w I) : ∃ p, YKw p 2 10 R N cap o x ρ w I := by
  have F := h.facts hin hi
  obtain ⟨i, ⟨W, st, kd, wd, vl, ch, stb, kdb, wdb, vlb, chb, f, n, c0, c1, c2, c3, p0, q0, p1, q1, p2, q2, p3, q3, d0, d1, d2, d3⟩⟩ := x
  dsimp only at hin hi hc hr F
  subst hc
  have b := h.b
  obtain ⟨hin1, hi1, ewi, r1, r2, hl, hl16, w0, w1, s0, s1, n0, n1⟩ := F
  have ok : ROk R ⟨ep, nx, sn, fl, tm, none⟩ := b.o2
  have aft := rAft (st := st) ok w0 w1
  have hend := rEnd (st := st) (W := W) ok
  rw [hr] at aft hend
  have hLn := hl
  have hLr := hl.symm
  have hWn := b.hw
  have hnx : r.nx = 0 := hend (.inl e0)
  refine ⟨⟨c0, c1, p0, p1, false, 2, false, 1, w00, r, ⟨R, ⟨0, 0, 0, 0, 0, 0, false, []⟩, ⟨ep, nx, sn, fl, tm, none⟩, 25, W, st, kd, wd, vl, ch⟩⟩, ?_⟩
  have hX := hXTy ⟨c0, c1, p0, p1, false, 2, false, 1, w00, r, ⟨R, ⟨0, 0, 0, 0, 0, 0, false, []⟩, ⟨ep, nx, sn, fl, tm, none⟩, 25, W, st, kd, wd, vl, ch⟩⟩
  dsimp only [YKw, ykT, yH, ypH]
  refine sx hX [] 4000 rfl (by (simp [-List.getD_eq_getElem?_getD, -List.length_eq_zero_iff, conjP, r1, r2, hl, w0, w1, s0, s1, slV, ok, hr, e0])) ?_
  refine sx hX [.K, .T, .K, .K, .K, .T] 4000 rfl (by (simp [-List.getD_eq_getElem?_getD, -List.length_eq_zero_iff, conjP, getH, HE.so, r1, r2, hl, w0, w1, s0, s1, rdP, drP, drE, slV, ok, hr, e0, hnx])) ?_
  refine sx hX [.F] 4000 rfl (by (simp [-List.getD_eq_getElem?_getD, -List.length_eq_zero_iff, conjP, addOP, hnx])) ?_
  refine sx hX [.K, .T, .K, .K, .T, .F] 4000 rfl (by (simp [-List.getD_eq_getElem?_getD, -List.length_eq_zero_iff, conjP, addOP, getH, HE.so, rdP, drP, hnx])) ?_
  refine sx hX [.K, .K, .F, .K, .K, .F] 4000 rfl (by (simp [-List.getD_eq_getElem?_getD, -List.length_eq_zero_iff, conjP, getH, HE.so, hl])) ?_
  refine sx hX [.F] 4000 rfl (by (simp [-List.getD_eq_getElem?_getD, -List.length_eq_zero_iff, conjP, addOP])) ?_
  (refine ss_raw hX 10 3 rfl rfl fun v => ?_; refine J _ ⟨i + 1, ⟨W, st + 1, 1, r.wd, r.vl, false, stb, kdb, wdb, vlb, chb, f, n, c0, c1, none, c3, p0, q0, p1, q1, p2, v, p3, q3, d0, d1, d2, d3⟩⟩ ?iv rfl _ _ _ (sub_of [0, 1, 2, 3, 4, 5, 6, 7, 8, 9, 10, 11, 12, 13, 14, 15, 60, 61, 18, 19, 20, 21, 22, 23, 62, 63, 26, 27] rfl rfl rfl rfl ?tt ?hh ?ot ?ok); (case tt => simp only [ewi]; (exact clhY)); (case hh => (exact clhY)); (case ot => (exact clkY)); (case ok => (exact clkY)); (case iv => exact ⟨(BInv.nx (z' := ⟨W, st + 1, 1, r.wd, r.vl, false, stb, kdb, wdb, vlb, chb, f, n, c0, c1, none, c3, p0, q0, p1, q1, p2, v, p3, q3, d0, d1, d2, d3⟩) b hLn hWn (b.o0) (b.o1) (trivial) (b.o3) (hi := by show 2 * i + 1 + 1 ≤ 10000; omega)).mono (by show 2 * i + 1 + 1 ≤ 2 * (i + 1) + 0; omega) (by show 2 * (i + 1) + 0 ≤ 10000; omega), by show i + 1 + 0 ≤ N; omega, by show i + 1 + 0 ≤ 150; omega⟩))
set_option maxHeartbeats 8000000 in
theorem yr2n3 (h : YInv R N 1 x) (hin : x.i < N) (hi : x.i < 150) {r : RR} {ep nx sn fl tm : Int} (hc : x.z.c2 = some ⟨ep, nx, sn, fl, tm, none⟩) (hr : rStep R ⟨ep, nx, sn, fl, tm, none⟩ x.z.W x.z.st = r) (e0 : r.k = 3) (J : ∀ p, YJ p R N cap o x ρ w I) : ∃ p, YKw p 2 10 R N cap o x ρ w I := by
  have F := h.facts hin hi
  obtain ⟨i, ⟨W, st, kd, wd, vl, ch, stb, kdb, wdb, vlb, chb, f, n, c0, c1, c2, c3, p0, q0, p1, q1, p2, q2, p3, q3, d0, d1, d2, d3⟩⟩ := x
  dsimp only at hin hi hc hr F
  subst hc
  have b := h.b
  obtain ⟨hin1, hi1, ewi, r1, r2, hl, hl16, w0, w1, s0, s1, n0, n1⟩ := F
  have ok : ROk R ⟨ep, nx, sn, fl, tm, none⟩ := b.o2
  have aft := rAft (st := st) ok w0 w1
  have hend := rEnd (st := st) (W := W) ok
  rw [hr] at aft hend
  have hLn := hl
  have hLr := hl.symm
  have hWn := b.hw
  have okn := aft.go (.inr (.inl e0))
  obtain ⟨e4, e2, e1, _, _, e3, _⟩ := aft.wd e0
  rw [e3] at okn
  have hnx : ¬ r.nx = 0 := by rcases okn.nxc with q | q | q <;> (dsimp only at q; omega)
  have hc0 : r.c = 0 := rC hr (by omega) (by omega)
  refine ⟨⟨c0, c1, p0, p1, false, 2, false, 3, w00, r, ⟨R, ⟨0, 0, 0, 0, 0, 0, false, []⟩, ⟨ep, nx, sn, fl, tm, none⟩, 25, W, st, kd, wd, vl, ch⟩⟩, ?_⟩
  have hX := hXTy ⟨c0, c1, p0, p1, false, 2, false, 3, w00, r, ⟨R, ⟨0, 0, 0, 0, 0, 0, false, []⟩, ⟨ep, nx, sn, fl, tm, none⟩, 25, W, st, kd, wd, vl, ch⟩⟩
  dsimp only [YKw, ykT, yH, ypH]
  refine sx hX [] 4000 rfl (by (simp [-List.getD_eq_getElem?_getD, -List.length_eq_zero_iff, conjP, r1, r2, hl, w0, w1, s0, s1, slV, ok, hr, e0])) ?_
  refine sx hX [.K, .T, .K, .K, .K, .T] 4000 rfl (by (simp [-List.getD_eq_getElem?_getD, -List.length_eq_zero_iff, conjP, getH, HE.so, r1, r2, hl, w0, w1, s0, s1, rdP, drP, drE, slV, ok, hr, e0, hnx])) ?_
  refine sx hX [.T] 4000 rfl (by (simp [-List.getD_eq_getElem?_getD, -List.length_eq_zero_iff, conjP, addOP, hnx])) ?_
  refine sx hX [.F] 4000 rfl (by (simp [-List.getD_eq_getElem?_getD, -List.length_eq_zero_iff, conjP])) ?_
  refine sx hX [.F] 4000 rfl (by (simp [-List.getD_eq_getElem?_getD, -List.length_eq_zero_iff, conjP, addOP])) ?_
  refine sx hX [.F] 4000 rfl (by (simp [-List.getD_eq_getElem?_getD, -List.length_eq_zero_iff, conjP, addOP])) ?_
  refine sx hX [.T] 4000 rfl (by (simp [-List.getD_eq_getElem?_getD, -List.length_eq_zero_iff, conjP, addOP, hnx])) ?_
  refine sx hX [.F] 4000 rfl (by (simp [-List.getD_eq_getElem?_getD, -List.length_eq_zero_iff, conjP, addOP])) ?_
  refine sx hX [.K, .K, .F, .K, .K, .F] 4000 rfl (by (simp [-List.getD_eq_getElem?_getD, -List.length_eq_zero_iff, conjP, getH, HE.so, hl])) ?_
  refine sx hX [.F] 4000 rfl (by (simp [-List.getD_eq_getElem?_getD, -List.length_eq_zero_iff, conjP, addOP])) ?_
  (refine J _ ⟨i + 1, ⟨W, st + 1, 1, r.wd, r.vl, false, stb, kdb, wdb, vlb, chb, f, n, c0, c1, some ⟨ep, r.nx, r.sn, r.fl, r.tm, (some [r.vl])⟩, c3, p0, q0, p1, q1, p2, q2, p3, q3, d0, d1, d2, d3⟩⟩ ?iv rfl _ _ _ (sub_of [0, 1, 2, 3, 4, 5, 6, 7, 8, 9, 10, 11, 12, 13, 14, 15, 16, 28, 18, 19, 20, 21, 22, 23, 24, 29, 26, 27] rfl rfl rfl rfl ?tt ?hh ?ot ?ok); (case tt => simp only [ewi]; (exact clhY)); (case hh => (exact clhY)); (case ot => (exact clkY)); (case ok => (exact clkY)); (case iv => exact ⟨(BInv.nx (z' := ⟨W, st + 1, 1, r.wd, r.vl, false, stb, kdb, wdb, vlb, chb, f, n, c0, c1, some ⟨ep, r.nx, r.sn, r.fl, r.tm, (some [r.vl])⟩, c3, p0, q0, p1, q1, p2, q2, p3, q3, d0, d1, d2, d3⟩) b hLn hWn (b.o0) (b.o1) (okn) (b.o3) (hi := by show 2 * i + 1 + 1 ≤ 10000; omega)).mono (by show 2 * i + 1 + 1 ≤ 2 * (i + 1) + 0; omega) (by show 2 * (i + 1) + 0 ≤ 10000; omega), by show i + 1 + 0 ≤ N; omega, by show i + 1 + 0 ≤ 150; omega⟩))
set_option maxHeartbeats 8000000 in
theorem yr2s0 (h : YInv R N 1 x) (hin : x.i < N) (hi : x.i < 150) {r : RR} {ep nx sn fl tm : Int} {l : List Int} (hc : x.z.c2 = some ⟨ep, nx, sn, fl, tm, (some l)⟩) (hr : rStep R ⟨ep, nx, sn, fl, tm, (some l)⟩ x.z.W x.z.st = r) (e0 : r.k = 0) (J : ∀ p, YJ p R N cap o x ρ w I) : ∃ p, YKw p 2 10 R N cap o x ρ w I := by
  have F := h.facts hin hi
  obtain ⟨i, ⟨W, st, kd, wd, vl, ch, stb, kdb, wdb, vlb, chb, f, n, c0, c1, c2, c3, p0, q0, p1, q1, p2, q2, p3, q3, d0, d1, d2, d3⟩⟩ := x
  dsimp only at hin hi hc hr F
  subst hc
  have b := h.b
  obtain ⟨hin1, hi1, ewi, r1, r2, hl, hl16, w0, w1, s0, s1, n0, n1⟩ := F
  have ok : ROk R ⟨ep, nx, sn, fl, tm, (some l)⟩ := b.o2
  have aft := rAft (st := st) ok w0 w1
  have hend := rEnd (st := st) (W := W) ok
  rw [hr] at aft hend
  have hLn := hl
  have hLr := hl.symm
  have hWn := b.hw
  have okn := aft.go (.inl e0)
  obtain ⟨e4, e3, e2, e1, _⟩ := aft.lk e0
  rw [e3] at okn
  have hnx : ¬ r.nx = 0 := by rcases okn.nxc with q | q | q <;> (dsimp only at q; omega)
  have hc0 : r.c = 0 := rC hr (by omega) (by omega)
  refine ⟨⟨c0, c1, p0, p1, false, 2, false, 0, w00, r, ⟨R, ⟨0, 0, 0, 0, 0, 0, false, []⟩, ⟨ep, nx, sn, fl, tm, (some l)⟩, 25, W, st, kd, wd, vl, ch⟩⟩, ?_⟩
  have hX := hXTy ⟨c0, c1, p0, p1, false, 2, false, 0, w00, r, ⟨R, ⟨0, 0, 0, 0, 0, 0, false, []⟩, ⟨ep, nx, sn, fl, tm, (some l)⟩, 25, W, st, kd, wd, vl, ch⟩⟩
  dsimp only [YKw, ykT, yH, ypH]
  refine sx hX [] 4000 rfl (by (simp [-List.getD_eq_getElem?_getD, -List.length_eq_zero_iff, conjP, r1, r2, hl, w0, w1, s0, s1, slV, ok, hr, e0])) ?_
  refine sx hX [.K, .T, .K, .K, .K, .T] 4000 rfl (by (simp [-List.getD_eq_getElem?_getD, -List.length_eq_zero_iff, conjP, getH, HE.so, r1, r2, hl, w0, w1, s0, s1, rdP, rlE, drP, drE, slV, slE, ok, hr, e0, hnx, hc0])) ?_
  refine sx hX [.T] 4000 rfl (by (simp [-List.getD_eq_getElem?_getD, -List.length_eq_zero_iff, conjP, addOP, hnx])) ?_
  refine sx hX [.F] 4000 rfl (by (simp [-List.getD_eq_getElem?_getD, -List.length_eq_zero_iff, conjP])) ?_
  refine sx hX [.F] 4000 rfl (by (simp [-List.getD_eq_getElem?_getD, -List.length_eq_zero_iff, conjP, addOP])) ?_
  refine sx hX [.F] 4000 rfl (by (simp [-List.getD_eq_getElem?_getD, -List.length_eq_zero_iff, conjP, addOP])) ?_
  refine sx hX [.T] 4000 rfl (by (simp [-List.getD_eq_getElem?_getD, -List.length_eq_zero_iff, conjP, addOP, hnx])) ?_
  refine sx hX [.F] 4000 rfl (by (simp [-List.getD_eq_getElem?_getD, -List.length_eq_zero_iff, conjP, addOP])) ?_
  refine sx hX [.K, .K, .F, .K, .K, .F] 4000 rfl (by (simp [-List.getD_eq_getElem?_getD, -List.length_eq_zero_iff, conjP, getH, HE.so, hl])) ?_
  refine sx hX [.F] 4000 rfl (by (simp [-List.getD_eq_getElem?_getD, -List.length_eq_zero_iff, conjP, addOP])) ?_
  (simp only [hc0]; refine J _ ⟨i + 1, ⟨W, st + 1, 1, r.wd, r.vl, false, stb, kdb, wdb, vlb, chb, f, n, c0, c1, some ⟨ep, r.nx, r.sn, r.fl, r.tm, none⟩, c3, p0, q0, p1, q1, p2, q2, p3, q3, d0, d1, d2, d3⟩⟩ ?iv rfl _ _ _ (sub_of [0, 1, 2, 3, 4, 5, 6, 7, 8, 9, 10, 11, 12, 13, 14, 15, 16, 61, 18, 19, 20, 21, 22, 23, 24, 62, 26, 27] rfl rfl rfl rfl ?tt ?hh ?ot ?ok); (case tt => simp only [ewi]; (exact clhY)); (case hh => (exact clhY)); (case ot => (exact clkY)); (case ok => (exact clkY)); (case iv => exact ⟨(BInv.nx (z' := ⟨W, st + 1, 1, r.wd, r.vl, false, stb, kdb, wdb, vlb, chb, f, n, c0, c1, some ⟨ep, r.nx, r.sn, r.fl, r.tm, none⟩, c3, p0, q0, p1, q1, p2, q2, p3, q3, d0, d1, d2, d3⟩) b hLn hWn (b.o0) (b.o1) (okn) (b.o3) (hi := by show 2 * i + 1 + 1 ≤ 10000; omega)).mono (by show 2 * i + 1 + 1 ≤ 2 * (i + 1) + 0; omega) (by show 2 * (i + 1) + 0 ≤ 10000; omega), by show i + 1 + 0 ≤ N; omega, by show i + 1 + 0 ≤ 150; omega⟩))
set_option maxHeartbeats 8000000 in
theorem yr2s1 (h : YInv R N 1 x) (hin : x.i < N) (hi : x.i < 150) {r : RR} {ep nx sn fl tm : Int} {l : List Int} (hc : x.z.c2 = some ⟨ep, nx, sn, fl, tm, (some l)⟩) (hr : rStep R ⟨ep, nx, sn, fl, tm, (some l)⟩ x.z.W x.z.st = r) (e0 : r.k = 1) (J : ∀ p, YJ p R N cap o x ρ w I) : ∃ p, YKw p 2 10 R N cap o x ρ w I := by
  have F := h.facts hin hi
  obtain ⟨i, ⟨W, st, kd, wd, vl, ch, stb, kdb, wdb, vlb, chb, f, n, c0, c1, c2, c3, p0, q0, p1, q1, p2, q2, p3, q3, d0, d1, d2, d3⟩⟩ := x
  dsimp only at hin hi hc hr F
  subst hc
  have b := h.b
  obtain ⟨hin1, hi1, ewi, r1, r2, hl, hl16, w0, w1, s0, s1, n0, n1⟩ := F
  have ok : ROk R ⟨ep, nx, sn, fl, tm, (some l)⟩ := b.o2
  have aft := rAft (st := st) ok w0 w1
  have hend := rEnd (st := st) (W := W) ok
  rw [hr] at aft hend
  have hLn := hl
  have hLr := hl.symm
  have hWn := b.hw
  have hnx : r.nx = 0 := hend (.inl e0)
  refine ⟨⟨c0, c1, p0, p1, false, 2, false, 1, w00, r, ⟨R, ⟨0, 0, 0, 0, 0, 0, false, []⟩, ⟨ep, nx, sn, fl, tm, (some l)⟩, 25, W, st, kd, wd, vl, ch⟩⟩, ?_⟩
  have hX := hXTy ⟨c0, c1, p0, p1, false, 2, false, 1, w00, r, ⟨R, ⟨0, 0, 0, 0, 0, 0, false, []⟩, ⟨ep, nx, sn, fl, tm, (some l)⟩, 25, W, st, kd, wd, vl, ch⟩⟩
  dsimp only [YKw, ykT, yH, ypH]
  refine sx hX [] 4000 rfl (by (simp [-List.getD_eq_getElem?_getD, -List.length_eq_zero_iff, conjP, r1, r2, hl, w0, w1, s0, s1, slV, ok, hr, e0])) ?_
  refine sx hX [.K, .T, .K, .K, .K, .T] 4000 rfl (by (simp [-List.getD_eq_getElem?_getD, -List.length_eq_zero_iff, conjP, getH, HE.so, r1, r2, hl, w0, w1, s0, s1, rdP, rlE, drP, drE, slV, slE, ok, hr, e0, hnx])) ?_
  refine sx hX [.F] 4000 rfl (by (simp [-List.getD_eq_getElem?_getD, -List.length_eq_zero_iff, conjP, addOP, hnx])) ?_
  refine sx hX [.K, .T, .K, .K, .T, .F] 4000 rfl (by (simp [-List.getD_eq_getElem?_getD, -List.length_eq_zero_iff, conjP, addOP, getH, HE.so, rdP, drP, hnx])) ?_
  refine sx hX [.K, .K, .F, .K, .K, .F] 4000 rfl (by (simp [-List.getD_eq_getElem?_getD, -List.length_eq_zero_iff, conjP, getH, HE.so, hl])) ?_
  refine sx hX [.F] 4000 rfl (by (simp [-List.getD_eq_getElem?_getD, -List.length_eq_zero_iff, conjP, addOP])) ?_
  (refine ss_raw hX 10 3 rfl rfl fun v => ?_; refine J _ ⟨i + 1, ⟨W, st + 1, 1, r.wd, r.vl, false, stb, kdb, wdb, vlb, chb, f, n, c0, c1, none, c3, p0, q0, p1, q1, p2, v, p3, q3, d0, d1, d2, d3⟩⟩ ?iv rfl _ _ _ (sub_of [0, 1, 2, 3, 4, 5, 6, 7, 8, 9, 10, 11, 12, 13, 14, 15, 60, 61, 18, 19, 20, 21, 22, 23, 62, 63, 26, 27] rfl rfl rfl rfl ?tt ?hh ?ot ?ok); (case tt => simp only [ewi]; (exact clhY)); (case hh => (exact clhY)); (case ot => (exact clkY)); (case ok => (exact clkY)); (case iv => exact ⟨(BInv.nx (z' := ⟨W, st + 1, 1, r.wd, r.vl, false, stb, kdb, wdb, vlb, chb, f, n, c0, c1, none, c3, p0, q0, p1, q1, p2, v, p3, q3, d0, d1, d2, d3⟩) b hLn hWn (b.o0) (b.o1) (trivial) (b.o3) (hi := by show 2 * i + 1 + 1 ≤ 10000; omega)).mono (by show 2 * i + 1 + 1 ≤ 2 * (i + 1) + 0; omega) (by show 2 * (i + 1) + 0 ≤ 10000; omega), by show i + 1 + 0 ≤ N; omega, by show i + 1 + 0 ≤ 150; omega⟩))
set_option maxHeartbeats 8000000 in
theorem yr2s3 (h : YInv R N 1 x) (hin : x.i < N) (hi : x.i < 150) {r : RR} {ep nx sn fl tm : Int} {l : List Int} (hc : x.z.c2 = some ⟨ep, nx, sn, fl, tm, (some l)⟩) (hr : rStep R ⟨ep, nx, sn, fl, tm, (some l)⟩ x.z.W x.z.st = r) (e0 : r.k = 3) (J : ∀ p, YJ p R N cap o x ρ w I) : ∃ p, YKw p 2 10 R N cap o x ρ w I := by
  have F := h.facts hin hi
  obtain ⟨i, ⟨W, st, kd, wd, vl, ch, stb, kdb, wdb, vlb, chb, f, n, c0, c1, c2, c3, p0, q0, p1, q1, p2, q2, p3, q3, d0, d1, d2, d3⟩⟩ := x
  dsimp only at hin hi hc hr F
  subst hc
  have b := h.b
  obtain ⟨hin1, hi1, ewi, r1, r2, hl, hl16, w0, w1, s0, s1, n0, n1⟩ := F
  have ok : ROk R ⟨ep, nx, sn, fl, tm, (some l)⟩ := b.o2
  have aft := rAft (st := st) ok w0 w1
  have hend := rEnd (st := st) (W := W) ok
  rw [hr] at aft hend
  have hLn := hl
  have hLr := hl.symm
  have hWn := b.hw
  have hwl : (l ++ [r.vl]).length = l.length + 1 := by simp
  have hwr := hwl.symm
  have okn := aft.go (.inr (.inl e0))
  obtain ⟨e4, e2, e1, _, _, e3, _⟩ := aft.wd e0
  rw [e3] at okn
  have hnx : ¬ r.nx = 0 := by rcases okn.nxc with q | q | q <;> (dsimp only at q; omega)
  have hc0 : r.c = 0 := rC hr (by omega) (by omega)
  refine ⟨⟨c0, c1, p0, p1, false, 2, false, 3, w00, r, ⟨R, ⟨0, 0, 0, 0, 0, 0, false, []⟩, ⟨ep, nx, sn, fl, tm, (some l)⟩, 25, W, st, kd, wd, vl, ch⟩⟩, ?_⟩
  have hX := hXTy ⟨c0, c1, p0, p1, false, 2, false, 3, w00, r, ⟨R, ⟨0, 0, 0, 0, 0, 0, false, []⟩, ⟨ep, nx, sn, fl, tm, (some l)⟩, 25, W, st, kd, wd, vl, ch⟩⟩
  dsimp only [YKw, ykT, yH, ypH]
  refine sx hX [] 4000 rfl (by (simp [-List.getD_eq_getElem?_getD, -List.length_eq_zero_iff, conjP, r1, r2, hl, w0, w1, s0, s1, slV, ok, hr, e0])) ?_
  refine sx hX [.K, .T, .K, .K, .K, .T] 4000 rfl (by (simp [-List.getD_eq_getElem?_getD, -List.length_eq_zero_iff, conjP, getH, HE.so, r1, r2, hl, w0, w1, s0, s1, rdP, rlE, drP, drE, slV, slE, ok, hr, e0, hnx])) ?_
  refine sx hX [.T] 4000 rfl (by (simp [-List.getD_eq_getElem?_getD, -List.length_eq_zero_iff, conjP, addOP, hnx])) ?_
  refine sx hX [.F] 4000 rfl (by (simp [-List.getD_eq_getElem?_getD, -List.length_eq_zero_iff, conjP])) ?_
  refine sx hX [.F] 4000 rfl (by (simp [-List.getD_eq_getElem?_getD, -List.length_eq_zero_iff, conjP, addOP])) ?_
  refine sx hX [.F] 4000 rfl (by (simp [-List.getD_eq_getElem?_getD, -List.length_eq_zero_iff, conjP, addOP])) ?_
  refine sx hX [.T] 4000 rfl (by (simp [-List.getD_eq_getElem?_getD, -List.length_eq_zero_iff, conjP, addOP, hnx])) ?_
  refine sx hX [.F] 4000 rfl (by (simp [-List.getD_eq_getElem?_getD, -List.length_eq_zero_iff, conjP, addOP])) ?_
  refine sx hX [.K, .K, .F, .K, .K, .F] 4000 rfl (by (simp [-List.getD_eq_getElem?_getD, -List.length_eq_zero_iff, conjP, getH, HE.so, hl])) ?_
  refine sx hX [.F] 4000 rfl (by (simp [-List.getD_eq_getElem?_getD, -List.length_eq_zero_iff, conjP, addOP])) ?_
  (refine J _ ⟨i + 1, ⟨W, st + 1, 1, r.wd, r.vl, false, stb, kdb, wdb, vlb, chb, f, n, c0, c1, some ⟨ep, r.nx, r.sn, r.fl, r.tm, (some (l ++ [r.vl]))⟩, c3, p0, q0, p1, q1, p2, q2, p3, q3, d0, d1, d2, d3⟩⟩ ?iv rfl _ _ _ (sub_of [0, 1, 2, 3, 4, 5, 6, 7, 8, 9, 10, 11, 12, 13, 14, 15, 16, 28, 18, 19, 20, 21, 22, 23, 24, 29, 26, 27] rfl rfl rfl rfl ?tt ?hh ?ot ?ok); (case tt => simp only [ewi]; (exact clhY)); (case hh => (exact clhY)); (case ot => (exact clkY)); (case ok => (exact clkY)); (case iv => exact ⟨(BInv.nx (z' := ⟨W, st + 1, 1, r.wd, r.vl, false, stb, kdb, wdb, vlb, chb, f, n, c0, c1, some ⟨ep, r.nx, r.sn, r.fl, r.tm, (some (l ++ [r.vl]))⟩, c3, p0, q0, p1, q1, p2, q2, p3, q3, d0, d1, d2, d3⟩) b hLn hWn (b.o0) (b.o1) (okn) (b.o3) (hi := by show 2 * i + 1 + 1 ≤ 10000; omega)).mono (by show 2 * i + 1 + 1 ≤ 2 * (i + 1) + 0; omega) (by show 2 * (i + 1) + 0 ≤ 10000; omega), by show i + 1 + 0 ≤ N; omega, by show i + 1 + 0 ≤ 150; omega⟩))
set_option maxHeartbeats 8000000 in
theorem yr2s2 (h : YInv R N 1 x) (hin : x.i < N) (hi : x.i < 150) {r : RR} {ep nx sn fl tm : Int} {l : List Int} (hc : x.z.c2 = some ⟨ep, nx, sn, fl, tm, (some l)⟩) (hr : rStep R ⟨ep, nx, sn, fl, tm, (some l)⟩ x.z.W x.z.st = r) (e0 : r.k = 2) (J : ∀ p, YJ p R N cap o x ρ w I) : ∃ p, YKw p 2 10 R N cap o x ρ w I := by
  have F := h.facts hin hi
  obtain ⟨i, ⟨W, st, kd, wd, vl, ch, stb, kdb, wdb, vlb, chb, f, n, c0, c1, c2, c3, p0, q0, p1, q1, p2, q2, p3, q3, d0, d1, d2, d3⟩⟩ := x
  dsimp only at hin hi hc hr F
  subst hc
  have b := h.b
  obtain ⟨hin1, hi1, ewi, r1, r2, hl, hl16, w0, w1, s0, s1, n0, n1⟩ := F
  have ok : ROk R ⟨ep, nx, sn, fl, tm, (some l)⟩ := b.o2
  have aft := rAft (st := st) ok w0 w1
  have hend := rEnd (st := st) (W := W) ok
  rw [hr] at aft hend
  have hLn := hl
  have hLr := hl.symm
  have hWn := b.hw
  have hnx : r.nx = 0 := hend (.inr (.inl e0))
  have hc0 : r.c = 0 := rC hr (by omega) (by omega)
  have hms : ∀ a, mulS a 1 = a := fun a => by simp [mulS]
  have htk : List.take (mulS 0 1) [] ++ List.take (mulS l.length 1) (List.drop (mulS 0 1) l) = l := by simp [mulS]
  have l4 := ok.w4 (aft.ok2 e0).1
  have hll : l.length < 1000000 := by have : (lst (some l)).length = 4 := l4; simp [lst] at this; omega
  refine ⟨⟨c0, c1, p0, p1, false, 2, false, 2, w00, r, ⟨R, ⟨0, 0, 0, 0, 0, 0, false, []⟩, ⟨ep, nx, sn, fl, tm, (some l)⟩, 25, W, st, kd, wd, vl, ch⟩⟩, ?_⟩
  have hX := hXTy ⟨c0, c1, p0, p1, false, 2, false, 2, w00, r, ⟨R, ⟨0, 0, 0, 0, 0, 0, false, []⟩, ⟨ep, nx, sn, fl, tm, (some l)⟩, 25, W, st, kd, wd, vl, ch⟩⟩
  dsimp only [YKw, ykT, yH, ypH]
  refine sx hX [] 4000 rfl (by (simp [-List.getD_eq_getElem?_getD, -List.length_eq_zero_iff, conjP, r1, r2, hl, w0, w1, s0, s1, slV, ok, hr, e0])) ?_
  refine sx hX [.K, .T, .K, .K, .K, .T] 4000 rfl (by (simp [-List.getD_eq_getElem?_getD, -List.length_eq_zero_iff, conjP, getH, HE.so, r1, r2, hl, w0, w1, s0, s1, rdP, rlE, drP, drE, slV, slE, ok, hr, e0, hnx, hc0])) ?_
  refine sx hX [.F] 4000 rfl (by (simp [-List.getD_eq_getElem?_getD, -List.length_eq_zero_iff, conjP, hnx, hms, hll] <;> (first | omega | ((repeat' (refine And.intro ?_ ?_)) <;> (first | omega | exact decide_eq_false (by omega) | exact decide_eq_true (by omega)))))) ?_
  refine sx hX [.K, .T, .K, .K, .T, .K, .K, .T, .F] 4000 rfl (by (simp [-List.getD_eq_getElem?_getD, -List.length_eq_zero_iff, conjP, addOP, getH, HE.so, rdP, drP, hnx, hc0, hms])) ?_
  refine sx hX [.K, .K, .F, .K, .K, .F] 4000 rfl (by (simp [-List.getD_eq_getElem?_getD, -List.length_eq_zero_iff, conjP, getH, HE.so, hl])) ?_
  refine sx hX [.F] 4000 rfl (by (simp [-List.getD_eq_getElem?_getD, -List.length_eq_zero_iff, conjP, addOP])) ?_
  (refine ss_raw hX 10 3 rfl rfl fun v => ?_; refine J _ ⟨i + 1, ⟨W, st + 1, 1, r.wd, r.vl, false, stb, kdb, wdb, vlb, chb, f, n, c0, c1, none, c3, p0, q0, p1, q1, p2, v, p3, q3, d0, d1, d2, d3⟩⟩ ?iv rfl _ _ _ (sub_of [0, 1, 2, 3, 4, 5, 6, 7, 8, 9, 10, 11, 12, 13, 14, 15, 60, 61, 18, 19, 20, 21, 22, 23, 62, 63, 26, 27] rfl rfl rfl rfl ?tt ?hh ?ot ?ok); (case tt => simp only [ewi]; (exact clhY)); (case hh => (exact clhY)); (case ot => (exact clkY)); (case ok => (exact clkY)); (case iv => exact ⟨(BInv.nx (z' := ⟨W, st + 1, 1, r.wd, r.vl, false, stb, kdb, wdb, vlb, chb, f, n, c0, c1, none, c3, p0, q0, p1, q1, p2, v, p3, q3, d0, d1, d2, d3⟩) b hLn hWn (b.o0) (b.o1) (trivial) (b.o3) (hi := by show 2 * i + 1 + 1 ≤ 10000; omega)).mono (by show 2 * i + 1 + 1 ≤ 2 * (i + 1) + 0; omega) (by show 2 * (i + 1) + 0 ≤ 10000; omega), by show i + 1 + 0 ≤ N; omega, by show i + 1 + 0 ≤ 150; omega⟩))
set_option maxHeartbeats 8000000 in
theorem yr2s4 (h : YInv R N 1 x) (hin : x.i < N) (hi : x.i < 150) {r : RR} {ep nx sn fl tm : Int} {l : List Int} (hc : x.z.c2 = some ⟨ep, nx, sn, fl, tm, (some l)⟩) (hr : rStep R ⟨ep, nx, sn, fl, tm, (some l)⟩ x.z.W x.z.st = r) (e0 : r.k = 4) (J : ∀ p, YJ p R N cap o x ρ w I) : ∃ p, YKw p 2 10 R N cap o x ρ w I := by
  have F := h.facts hin hi
  obtain ⟨i, ⟨W, st, kd, wd, vl, ch, stb, kdb, wdb, vlb, chb, f, n, c0, c1, c2, c3, p0, q0, p1, q1, p2, q2, p3, q3, d0, d1, d2, d3⟩⟩ := x
  dsimp only at hin hi hc hr F
  subst hc
  have b := h.b
  obtain ⟨hin1, hi1, ewi, r1, r2, hl, hl16, w0, w1, s0, s1, n0, n1⟩ := F
  have ok : ROk R ⟨ep, nx, sn, fl, tm, (some l)⟩ := b.o2
  have aft := rAft (st := st) ok w0 w1
  have hend := rEnd (st := st) (W := W) ok
  rw [hr] at aft hend
  have hLn := hl
  have hLr := hl.symm
  have hWn := b.hw
  have okn := aft.go (.inr (.inr e0))
  obtain ⟨e4, e3, e1, e2⟩ := aft.fa (.inl e0)
  rw [e2] at okn
  have hnx : ¬ r.nx = 0 := by rcases okn.nxc with q | q | q <;> (dsimp only at q; omega)
  have hc0 : r.c = 0 := rC hr (by omega) (by omega)
  refine ⟨⟨c0, c1, p0, p1, false, 2, false, 4, w00, r, ⟨R, ⟨0, 0, 0, 0, 0, 0, false, []⟩, ⟨ep, nx, sn, fl, tm, (some l)⟩, 25, W, st, kd, wd, vl, ch⟩⟩, ?_⟩
  have hX := hXTy ⟨c0, c1, p0, p1, false, 2, false, 4, w00, r, ⟨R, ⟨0, 0, 0, 0, 0, 0, false, []⟩, ⟨ep, nx, sn, fl, tm, (some l)⟩, 25, W, st, kd, wd, vl, ch⟩⟩
  dsimp only [YKw, ykT, yH, ypH]
  refine sx hX [] 4000 rfl (by (simp [-List.getD_eq_getElem?_getD, -List.length_eq_zero_iff, conjP, r1, r2, hl, w0, w1, s0, s1, slV, ok, hr, e0])) ?_
  refine sx hX [.K, .T, .K, .K, .K, .T] 4000 rfl (by (simp [-List.getD_eq_getElem?_getD, -List.length_eq_zero_iff, conjP, getH, HE.so, r1, r2, hl, w0, w1, s0, s1, rdP, rlE, drP, drE, slV, slE, ok, hr, e0, hnx, hc0])) ?_
  refine sx hX [.T] 4000 rfl (by (simp [-List.getD_eq_getElem?_getD, -List.length_eq_zero_iff, conjP, addOP, hnx])) ?_
  refine sx hX [.F] 4000 rfl (by (simp [-List.getD_eq_getElem?_getD, -List.length_eq_zero_iff, conjP])) ?_
  refine sx hX [.F] 4000 rfl (by (simp [-List.getD_eq_getElem?_getD, -List.length_eq_zero_iff, conjP, addOP])) ?_
  refine sx hX [.F] 4000 rfl (by (simp [-List.getD_eq_getElem?_getD, -List.length_eq_zero_iff, conjP, addOP])) ?_
  refine sx hX [.T] 4000 rfl (by (simp [-List.getD_eq_getElem?_getD, -List.length_eq_zero_iff, conjP, addOP, hnx])) ?_
  refine sx hX [.F] 4000 rfl (by (simp [-List.getD_eq_getElem?_getD, -List.length_eq_zero_iff, conjP, addOP])) ?_
  refine sx hX [.K, .K, .F, .K, .K, .F] 4000 rfl (by (simp [-List.getD_eq_getElem?_getD, -List.length_eq_zero_iff, conjP, getH, HE.so, hl])) ?_
  refine sx hX [.F] 4000 rfl (by (simp [-List.getD_eq_getElem?_getD, -List.length_eq_zero_iff, conjP, addOP])) ?_
  (simp only [hc0]; refine J _ ⟨i + 1, ⟨W, st + 1, 1, r.wd, r.vl, false, stb, kdb, wdb, vlb, chb, f, n, c0, c1, some ⟨ep, r.nx, r.sn, r.fl, r.tm, (some l)⟩, c3, p0, q0, p1, q1, p2, q2, p3, q3, d0, d1, d2, d3⟩⟩ ?iv rfl _ _ _ (sub_of [0, 1, 2, 3, 4, 5, 6, 7, 8, 9, 10, 11, 12, 13, 14, 15, 16, 17, 18, 19, 20, 21, 22, 23, 24, 25, 26, 27] rfl rfl rfl rfl ?tt ?hh ?ot ?ok); (case tt => simp only [ewi]; (exact clhY)); (case hh => (exact clhY)); (case ot => (exact clkY)); (case ok => (exact clkY)); (case iv => exact ⟨(BInv.nx (z' := ⟨W, st + 1, 1, r.wd, r.vl, false, stb, kdb, wdb, vlb, chb, f, n, c0, c1, some ⟨ep, r.nx, r.sn, r.fl, r.tm, (some l)⟩, c3, p0, q0, p1, q1, p2, q2, p3, q3, d0, d1, d2, d3⟩) b hLn hWn (b.o0) (b.o1) (okn) (b.o3) (hi := by show 2 * i + 1 + 1 ≤ 10000; omega)).mono (by show 2 * i + 1 + 1 ≤ 2 * (i + 1) + 0; omega) (by show 2 * (i + 1) + 0 ≤ 10000; omega), by show i + 1 + 0 ≤ N; omega, by show i + 1 + 0 ≤ 150; omega⟩))
set_option maxHeartbeats 8000000 in
theorem yr2s5 (h : YInv R N 1 x) (hin : x.i < N) (hi : x.i < 150) {r : RR} {ep nx sn fl tm : Int} {l : List Int} (hc : x.z.c2 = some ⟨ep, nx, sn, fl, tm, (some l)⟩) (hr : rStep R ⟨ep, nx, sn, fl, tm, (some l)⟩ x.z.W x.z.st = r) (e0 : r.k = 5) (J : ∀ p, YJ p R N cap o x ρ w I) : ∃ p, YKw p 2 10 R N cap o x ρ w I := by
  have F := h.facts hin hi
  obtain ⟨i, ⟨W, st, kd, wd, vl, ch, stb, kdb, wdb, vlb, chb, f, n, c0, c1, c2, c3, p0, q0, p1, q1, p2, q2, p3, q3, d0, d1, d2, d3⟩⟩ := x
  dsimp only at hin hi hc hr F
  subst hc
  have b := h.b
  obtain ⟨hin1, hi1, ewi, r1, r2, hl, hl16, w0, w1, s0, s1, n0, n1⟩ := F
  have ok : ROk R ⟨ep, nx, sn, fl, tm, (some l)⟩ := b.o2
  have aft := rAft (st := st) ok w0 w1
  have hend := rEnd (st := st) (W := W) ok
  rw [hr] at aft hend
  have hLn := hl
  have hLr := hl.symm
  have hWn := b.hw
  have hnx : r.nx = 0 := hend (.inr (.inr e0))
  refine ⟨⟨c0, c1, p0, p1, false, 2, false, 5, w00, r, ⟨R, ⟨0, 0, 0, 0, 0, 0, false, []⟩, ⟨ep, nx, sn, fl, tm, (some l)⟩, 25, W, st, kd, wd, vl, ch⟩⟩, ?_⟩
  have hX := hXTy ⟨c0, c1, p0, p1, false, 2, false, 5, w00, r, ⟨R, ⟨0, 0, 0, 0, 0, 0, false, []⟩, ⟨ep, nx, sn, fl, tm, (some l)⟩, 25, W, st, kd, wd, vl, ch⟩⟩
  dsimp only [YKw, ykT, yH, ypH]
  refine sx hX [] 4000 rfl (by (simp [-List.getD_eq_getElem?_getD, -List.length_eq_zero_iff, conjP, r1, r2, hl, w0, w1, s0, s1, slV, ok, hr, e0])) ?_
  refine sx hX [.K, .T, .K, .K, .K, .T] 4000 rfl (by (simp [-List.getD_eq_getElem?_getD, -List.length_eq_zero_iff, conjP, getH, HE.so, r1, r2, hl, w0, w1, s0, s1, rdP, rlE, drP, drE, slV, slE, ok, hr, e0, hnx])) ?_
  refine sx hX [.F] 4000 rfl (by (simp [-List.getD_eq_getElem?_getD, -List.length_eq_zero_iff, conjP, addOP, hnx])) ?_
  refine sx hX [.K, .T, .K, .K, .T, .F] 4000 rfl (by (simp [-List.getD_eq_getElem?_getD, -List.length_eq_zero_iff, conjP, addOP, getH, HE.so, rdP, drP, hnx])) ?_
  refine sx hX [.K, .K, .F, .K, .K, .F] 4000 rfl (by (simp [-List.getD_eq_getElem?_getD, -List.length_eq_zero_iff, conjP, getH, HE.so, hl])) ?_
  refine sx hX [.F] 4000 rfl (by (simp [-List.getD_eq_getElem?_getD, -List.length_eq_zero_iff, conjP, addOP])) ?_
  (refine ss_raw hX 10 3 rfl rfl fun v => ?_; refine J _ ⟨i + 1, ⟨W, st + 1, 1, r.wd, r.vl, false, stb, kdb, wdb, vlb, chb, f, n, c0, c1, none, c3, p0, q0, p1, q1, p2, v, p3, q3, d0, d1, d2, d3⟩⟩ ?iv rfl _ _ _ (sub_of [0, 1, 2, 3, 4, 5, 6, 7, 8, 9, 10, 11, 12, 13, 14, 15, 60, 61, 18, 19, 20, 21, 22, 23, 62, 63, 26, 27] rfl rfl rfl rfl ?tt ?hh ?ot ?ok); (case tt => simp only [ewi]; (exact clhY)); (case hh => (exact clhY)); (case ot => (exact clkY)); (case ok => (exact clkY)); (case iv => exact ⟨(BInv.nx (z' := ⟨W, st + 1, 1, r.wd, r.vl, false, stb, kdb, wdb, vlb, chb, f, n, c0, c1, none, c3, p0, q0, p1, q1, p2, v, p3, q3, d0, d1, d2, d3⟩) b hLn hWn (b.o0) (b.o1) (trivial) (b.o3) (hi := by show 2 * i + 1 + 1 ≤ 10000; omega)).mono (by show 2 * i + 1 + 1 ≤ 2 * (i + 1) + 0; omega) (by show 2 * (i + 1) + 0 ≤ 10000; omega), by show i + 1 + 0 ≤ N; omega, by show i + 1 + 0 ≤ 150; omega⟩))
theorem yt2 (h : YInv R N 1 x) (hin : x.i < N) (hi : x.i < 150) (hne : x.z.c2 ≠ none) (J : ∀ p, YJ p R N cap o x ρ w I) : ∃ p, YKw p 2 10 R N cap o x ρ w I := by
  rcases hc : x.z.c2 with _ | ⟨ep, nx, sn, fl, tm, o'⟩
  · exact absurd hc hne
  · have ok : ROk R ⟨ep, nx, sn, fl, tm, o'⟩ := by have q := h.b.o2; rw [hc] at q; exact q
    rcases o' with _ | l
    · rcases (show nx = 1 ∨ nx = 3 ∨ nx = 4 from ok.nxc) with g | g | g
      · rcases rk1 (R := R) (W := x.z.W) (st := x.z.st) (s := ⟨ep, nx, sn, fl, tm, none⟩) g with e | e
        · exact yr2n0 h hin hi hc rfl e J
        · exact yr2n1 h hin hi hc rfl e J
      · exact yr2n3 h hin hi hc rfl (rk3 g) J
      · exact absurd (show (0 : Nat) = 4 from ok.w4 g) (by decide)
    · rcases (show nx = 1 ∨ nx = 3 ∨ nx = 4 from ok.nxc) with g | g | g
      · rcases rk1 (R := R) (W := x.z.W) (st := x.z.st) (s := ⟨ep, nx, sn, fl, tm, some l⟩) g with e | e
        · exact yr2s0 h hin hi hc rfl e J
        · exact yr2s1 h hin hi hc rfl e J
      · exact yr2s3 h hin hi hc rfl (rk3 g) J
      · rcases rk4 (R := R) (W := x.z.W) (st := x.z.st) (s := ⟨ep, nx, sn, fl, tm, some l⟩) g with e | e | e
        · exact yr2s2 h hin hi hc rfl e J
        · exact yr2s4 h hin hi hc rfl e J
        · exact yr2s5 h hin hi hc rfl e J
end
end Go.Proofs.YtmghcelohnlceaaGreatDoor
