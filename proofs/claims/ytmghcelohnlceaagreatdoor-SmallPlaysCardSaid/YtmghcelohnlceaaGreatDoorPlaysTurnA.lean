/- SmallPlays: client 0 has its turn. -/
import Derived.Test.YtmghcelohnlceaaGreatDoorPlaysBegin
namespace Go.Proofs.YtmghcelohnlceaaGreatDoor
open Go Go.Hx
set_option maxRecDepth 8000
section
variable {R : Int} {N cap : Nat} {o : Nat → Int × Int} {x : YS} {ρ : Nat → Nat × Nat} {w : World} {I : Act → World → Prop}

set_option maxHeartbeats 8000000 in
theorem yw00 (h : YInv R N 1 x) (hin : x.i < N) (hi : x.i < 150) {r : WR} {ep nx sn fl tm ii : Int} {hd : Bool} {l : List Int} (hc : x.z.c0 = some ⟨ep, nx, sn, fl, tm, ii, hd, l⟩) (hr : wStep R ⟨ep, nx, sn, fl, tm, ii, hd, l⟩ x.z.W x.z.st = r) (e0 : r.k = 0) (J : ∀ p, YJ p R N cap o x ρ w I) : ∃ p, YKw p 0 8 R N cap o x ρ w I := by
  have F := h.facts hin hi
  obtain ⟨i, ⟨W, st, kd, wd, vl, ch, stb, kdb, wdb, vlb, chb, f, n, c0, c1, c2, c3, p0, q0, p1, q1, p2, q2, p3, q3, d0, d1, d2, d3⟩⟩ := x
  dsimp only at hin hi hc hr F
  subst hc
  have b := h.b
  obtain ⟨hin1, hi1, ewi, r1, r2, hl, hl16, w0, w1, s0, s1, n0, n1⟩ := F
  have ok : WOk R ⟨ep, nx, sn, fl, tm, ii, hd, l⟩ := b.o0
  have aft := wAft (st := st) ok b.hw
  have hend := wEnd (st := st) (W := W) ok
  rw [hr] at aft hend
  have hLn : r.W.length = 21 := aft.hl.trans hl
  have hLr := hLn.symm
  have hWn := aft.hw
  obtain ⟨hcm0, okn⟩ := aft.go e0
  have hnx : ¬ r.nx = 0 := by have := okn.nx0; dsimp only at this; omega
  have hc0 : r.c = 0 := wC hr (by omega)
  refine ⟨⟨(some ⟨ep, nx, sn, fl, tm, ii, hd, l⟩), c1, p0, p1, false, 0, false, 0, r, r00, ⟨R, ⟨ep, nx, sn, fl, tm, ii, hd, l⟩, ⟨0, 0, 0, 0, 0, none⟩, 21, W, st, kd, wd, vl, ch⟩⟩, ?_⟩
  have hX := hXTy ⟨(some ⟨ep, nx, sn, fl, tm, ii, hd, l⟩), c1, p0, p1, false, 0, false, 0, r, r00, ⟨R, ⟨ep, nx, sn, fl, tm, ii, hd, l⟩, ⟨0, 0, 0, 0, 0, none⟩, 21, W, st, kd, wd, vl, ch⟩⟩
  dsimp only [YKw, ykT, yH, ypH]
  refine sx hX [] 4000 rfl (by (simp [-List.getD_eq_getElem?_getD, -List.length_eq_zero_iff, conjP, r1, r2, hl, w0, w1, s0, s1, ok, hr, e0])) ?_
  refine sx hX [.K, .T, .K, .K, .K, .T, .K, .K, .K, .K, .T] 4000 rfl (by (simp [-List.getD_eq_getElem?_getD, -List.length_eq_zero_iff, conjP, getH, HE.so, r1, r2, hl, w0, w1, s0, s1, wrP, dwP, dwE, dlE, ok, hr, e0, hnx, hc0, hcm0])) ?_
  refine sx hX [.T] 4000 rfl (by (simp [-List.getD_eq_getElem?_getD, -List.length_eq_zero_iff, conjP, addOP, hnx])) ?_
  refine sx hX [.F] 4000 rfl (by (simp [-List.getD_eq_getElem?_getD, -List.length_eq_zero_iff, conjP])) ?_
  refine sx hX [.F] 4000 rfl (by (simp [-List.getD_eq_getElem?_getD, -List.length_eq_zero_iff, conjP, addOP])) ?_
  refine sx hX [.K, .K, .F, .K, .K, .F] 4000 rfl (by (simp [-List.getD_eq_getElem?_getD, -List.length_eq_zero_iff, conjP, getH, HE.so, hLn, hcm0])) ?_
  refine sx hX [.F] 4000 rfl (by (simp [-List.getD_eq_getElem?_getD, -List.length_eq_zero_iff, conjP, addOP])) ?_
  (simp only [hcm0, hc0]; refine J _ ⟨i + 1, ⟨r.W, st + 1, r.kd, r.wd, r.vl, r.ch, stb, kdb, wdb, vlb, chb, f, n, some ⟨ep, r.nx, r.sn, r.fl, r.tm, r.i, r.hd, l⟩, c1, c2, c3, p0, q0, p1, q1, p2, q2, p3, q3, d0, d1, d2, d3⟩⟩ ?iv rfl _ _ _ (sub_of [0, 1, 2, 3, 4, 5, 6, 7, 8, 9, 10, 11, 12, 13, 14, 15, 16, 17, 18, 19, 20, 21, 22, 23, 24, 25, 26, 27] rfl rfl rfl rfl ?tt ?hh ?ot ?ok); (case tt => simp only [ewi]; (exact clhY)); (case hh => (exact clhY)); (case ot => (exact clkY)); (case ok => (exact clkY)); (case iv => exact ⟨(BInv.nx (z' := ⟨r.W, st + 1, r.kd, r.wd, r.vl, r.ch, stb, kdb, wdb, vlb, chb, f, n, some ⟨ep, r.nx, r.sn, r.fl, r.tm, r.i, r.hd, l⟩, c1, c2, c3, p0, q0, p1, q1, p2, q2, p3, q3, d0, d1, d2, d3⟩) b hLn hWn (okn) (b.o1) (b.o2) (b.o3) (hi := by show 2 * i + 1 + 1 ≤ 10000; omega)).mono (by show 2 * i + 1 + 1 ≤ 2 * (i + 1) + 0; omega) (by show 2 * (i + 1) + 0 ≤ 10000; omega), by show i + 1 + 0 ≤ N; omega, by show i + 1 + 0 ≤ 150; omega⟩))
set_option maxHeartbeats 8000000 in
theorem yw01 (h : YInv R N 1 x) (hin : x.i < N) (hi : x.i < 150) {r : WR} {ep nx sn fl tm ii : Int} {hd : Bool} {l : List Int} (hc : x.z.c0 = some ⟨ep, nx, sn, fl, tm, ii, hd, l⟩) (hr : wStep R ⟨ep, nx, sn, fl, tm, ii, hd, l⟩ x.z.W x.z.st = r) (e0 : r.k = 1) (J : ∀ p, YJ p R N cap o x ρ w I) : ∃ p, YKw p 0 8 R N cap o x ρ w I := by
  have F := h.facts hin hi
  obtain ⟨i, ⟨W, st, kd, wd, vl, ch, stb, kdb, wdb, vlb, chb, f, n, c0, c1, c2, c3, p0, q0, p1, q1, p2, q2, p3, q3, d0, d1, d2, d3⟩⟩ := x
  dsimp only at hin hi hc hr F
  subst hc
  have b := h.b
  obtain ⟨hin1, hi1, ewi, r1, r2, hl, hl16, w0, w1, s0, s1, n0, n1⟩ := F
  have ok : WOk R ⟨ep, nx, sn, fl, tm, ii, hd, l⟩ := b.o0
  have aft := wAft (st := st) ok b.hw
  have hend := wEnd (st := st) (W := W) ok
  rw [hr] at aft hend
  have hLn : r.W.length = 21 := aft.hl.trans hl
  have hLr := hLn.symm
  have hWn := aft.hw
  have hnx : r.nx = 0 := hend.1 (by omega)
  refine ⟨⟨(some ⟨ep, nx, sn, fl, tm, ii, hd, l⟩), c1, p0, p1, false, 0, false, 1, r, r00, ⟨R, ⟨ep, nx, sn, fl, tm, ii, hd, l⟩, ⟨0, 0, 0, 0, 0, none⟩, 21, W, st, kd, wd, vl, ch⟩⟩, ?_⟩
  have hX := hXTy ⟨(some ⟨ep, nx, sn, fl, tm, ii, hd, l⟩), c1, p0, p1, false, 0, false, 1, r, r00, ⟨R, ⟨ep, nx, sn, fl, tm, ii, hd, l⟩, ⟨0, 0, 0, 0, 0, none⟩, 21, W, st, kd, wd, vl, ch⟩⟩
  dsimp only [YKw, ykT, yH, ypH]
  refine sx hX [] 4000 rfl (by (simp [-List.getD_eq_getElem?_getD, -List.length_eq_zero_iff, conjP, r1, r2, hl, w0, w1, s0, s1, ok, hr, e0])) ?_
  refine sx hX [.K, .T, .K, .K, .K, .T, .K, .K, .K, .K, .T] 4000 rfl (by (simp [-List.getD_eq_getElem?_getD, -List.length_eq_zero_iff, conjP, getH, HE.so, r1, r2, hl, w0, w1, s0, s1, wrP, dwP, dwE, dlE, ok, hr, e0, hnx])) ?_
  refine sx hX [.F] 4000 rfl (by (simp [-List.getD_eq_getElem?_getD, -List.length_eq_zero_iff, conjP, hnx])) ?_
  refine sx hX [.F] 4000 rfl (by (simp [-List.getD_eq_getElem?_getD, -List.length_eq_zero_iff, conjP, addOP])) ?_
  refine sx hX [.K, .K, .F, .K, .K, .F] 4000 rfl (by (simp [-List.getD_eq_getElem?_getD, -List.length_eq_zero_iff, conjP, getH, HE.so, hLn])) ?_
  refine sx hX [.F] 4000 rfl (by (simp [-List.getD_eq_getElem?_getD, -List.length_eq_zero_iff, conjP, addOP])) ?_
  (refine ss_raw hX 8 2 rfl rfl fun v => ?_; refine J _ ⟨i + 1, ⟨r.W, st + 1, r.kd, r.wd, r.vl, r.ch, stb, kdb, wdb, vlb, chb, f, n, none, c1, c2, c3, v, q0, p1, q1, p2, q2, p3, q3, d0, d1, d2, d3⟩⟩ ?iv rfl _ _ _ (sub_of [0, 1, 2, 3, 4, 5, 6, 7, 8, 9, 10, 11, 60, 61, 14, 15, 16, 17, 18, 19, 62, 63, 22, 23, 24, 25, 26, 27] rfl rfl rfl rfl ?tt ?hh ?ot ?ok); (case tt => simp only [ewi]; (exact clhY)); (case hh => (exact clhY)); (case ot => (exact clkY)); (case ok => (exact clkY)); (case iv => exact ⟨(BInv.nx (z' := ⟨r.W, st + 1, r.kd, r.wd, r.vl, r.ch, stb, kdb, wdb, vlb, chb, f, n, none, c1, c2, c3, v, q0, p1, q1, p2, q2, p3, q3, d0, d1, d2, d3⟩) b hLn hWn (trivial) (b.o1) (b.o2) (b.o3) (hi := by show 2 * i + 1 + 1 ≤ 10000; omega)).mono (by show 2 * i + 1 + 1 ≤ 2 * (i + 1) + 0; omega) (by show 2 * (i + 1) + 0 ≤ 10000; omega), by show i + 1 + 0 ≤ N; omega, by show i + 1 + 0 ≤ 150; omega⟩))
set_option maxHeartbeats 8000000 in
theorem yw02 (h : YInv R N 1 x) (hin : x.i < N) (hi : x.i < 150) {r : WR} {ep nx sn fl tm ii : Int} {hd : Bool} {l : List Int} (hc : x.z.c0 = some ⟨ep, nx, sn, fl, tm, ii, hd, l⟩) (hr : wStep R ⟨ep, nx, sn, fl, tm, ii, hd, l⟩ x.z.W x.z.st = r) (e0 : r.k = 2) (J : ∀ p, YJ p R N cap o x ρ w I) : ∃ p, YKw p 0 8 R N cap o x ρ w I := by
  have F := h.facts hin hi
  obtain ⟨i, ⟨W, st, kd, wd, vl, ch, stb, kdb, wdb, vlb, chb, f, n, c0, c1, c2, c3, p0, q0, p1, q1, p2, q2, p3, q3, d0, d1, d2, d3⟩⟩ := x
  dsimp only at hin hi hc hr F
  subst hc
  have b := h.b
  obtain ⟨hin1, hi1, ewi, r1, r2, hl, hl16, w0, w1, s0, s1, n0, n1⟩ := F
  have ok : WOk R ⟨ep, nx, sn, fl, tm, ii, hd, l⟩ := b.o0
  have aft := wAft (st := st) ok b.hw
  have hend := wEnd (st := st) (W := W) ok
  rw [hr] at aft hend
  have hLn : r.W.length = 21 := aft.hl.trans hl
  have hLr := hLn.symm
  have hWn := aft.hw
  have hnx : r.nx = 0 := hend.1 (by omega)
  have hc0 : r.c = 0 := wC hr (by omega)
  refine ⟨⟨(some ⟨ep, nx, sn, fl, tm, ii, hd, l⟩), c1, p0, p1, false, 0, false, 2, r, r00, ⟨R, ⟨ep, nx, sn, fl, tm, ii, hd, l⟩, ⟨0, 0, 0, 0, 0, none⟩, 21, W, st, kd, wd, vl, ch⟩⟩, ?_⟩
  have hX := hXTy ⟨(some ⟨ep, nx, sn, fl, tm, ii, hd, l⟩), c1, p0, p1, false, 0, false, 2, r, r00, ⟨R, ⟨ep, nx, sn, fl, tm, ii, hd, l⟩, ⟨0, 0, 0, 0, 0, none⟩, 21, W, st, kd, wd, vl, ch⟩⟩
  dsimp only [YKw, ykT, yH, ypH]
  refine sx hX [] 4000 rfl (by (simp [-List.getD_eq_getElem?_getD, -List.length_eq_zero_iff, conjP, r1, r2, hl, w0, w1, s0, s1, ok, hr, e0])) ?_
  refine sx hX [.K, .T, .K, .K, .K, .T, .K, .K, .K, .K, .T] 4000 rfl (by (simp [-List.getD_eq_getElem?_getD, -List.length_eq_zero_iff, conjP, getH, HE.so, r1, r2, hl, w0, w1, s0, s1, wrP, dwP, dwE, dlE, ok, hr, e0, hnx, hc0])) ?_
  refine sx hX [.F] 4000 rfl (by (simp [-List.getD_eq_getElem?_getD, -List.length_eq_zero_iff, conjP, addOP, hnx])) ?_
  refine sx hX [.F] 4000 rfl (by (simp [-List.getD_eq_getElem?_getD, -List.length_eq_zero_iff, conjP, addOP, hc0])) ?_
  refine sx hX [.K, .K, .F, .K, .K, .F] 4000 rfl (by (simp [-List.getD_eq_getElem?_getD, -List.length_eq_zero_iff, conjP, getH, HE.so, hLn])) ?_
  refine sx hX [.F] 4000 rfl (by (simp [-List.getD_eq_getElem?_getD, -List.length_eq_zero_iff, conjP, addOP])) ?_
  (refine ss_raw hX 8 2 rfl rfl fun v => ?_; refine J _ ⟨i + 1, ⟨r.W, st + 1, r.kd, r.wd, r.vl, r.ch, stb, kdb, wdb, vlb, chb, f, n, none, c1, c2, c3, v, q0, p1, q1, p2, q2, p3, q3, d0, d1, d2, d3⟩⟩ ?iv rfl _ _ _ (sub_of [0, 1, 2, 3, 4, 5, 6, 7, 8, 9, 10, 11, 60, 61, 14, 15, 16, 17, 18, 19, 62, 63, 22, 23, 24, 25, 26, 27] rfl rfl rfl rfl ?tt ?hh ?ot ?ok); (case tt => simp only [ewi]; (exact clhY)); (case hh => (exact clhY)); (case ot => (exact clkY)); (case ok => (exact clkY)); (case iv => exact ⟨(BInv.nx (z' := ⟨r.W, st + 1, r.kd, r.wd, r.vl, r.ch, stb, kdb, wdb, vlb, chb, f, n, none, c1, c2, c3, v, q0, p1, q1, p2, q2, p3, q3, d0, d1, d2, d3⟩) b hLn hWn (trivial) (b.o1) (b.o2) (b.o3) (hi := by show 2 * i + 1 + 1 ≤ 10000; omega)).mono (by show 2 * i + 1 + 1 ≤ 2 * (i + 1) + 0; omega) (by show 2 * (i + 1) + 0 ≤ 10000; omega), by show i + 1 + 0 ≤ N; omega, by show i + 1 + 0 ≤ 150; omega⟩))
theorem yt0 (h : YInv R N 1 x) (hin : x.i < N) (hi : x.i < 150) (hne : x.z.c0 ≠ none) (J : ∀ p, YJ p R N cap o x ρ w I) : ∃ p, YKw p 0 8 R N cap o x ρ w I := by
  rcases hc : x.z.c0 with _ | ⟨ep, nx, sn, fl, tm, ii, hd, l⟩
  · exact absurd hc hne
  · have ok : WOk R ⟨ep, nx, sn, fl, tm, ii, hd, l⟩ := by have q := h.b.o0; rw [hc] at q; exact q
    have k2 := (wAft (st := x.z.st) ok h.b.hw).k2
    have kc : (wStep R ⟨ep, nx, sn, fl, tm, ii, hd, l⟩ x.z.W x.z.st).k = 0 ∨ (wStep R ⟨ep, nx, sn, fl, tm, ii, hd, l⟩ x.z.W x.z.st).k = 1 ∨ (wStep R ⟨ep, nx, sn, fl, tm, ii, hd, l⟩ x.z.W x.z.st).k = 2 := by omega
    rcases kc with e | e | e
    · exact yw00 h hin hi hc rfl e J
    · exact yw01 h hin hi hc rfl e J
    · exact yw02 h hin hi hc rfl e J
end
end Go.Proofs.YtmghcelohnlceaaGreatDoor

/- SmallPlays: client 1 has its turn. -/
namespace Go.Proofs.YtmghcelohnlceaaGreatDoor
open Go Go.Hx
set_option maxRecDepth 8000
section
variable {R : Int} {N cap : Nat} {o : Nat → Int × Int} {x : YS} {ρ : Nat → Nat × Nat} {w : World} {I : Act → World → Prop}

set_option maxHeartbeats 8000000 in
theorem yw10 (h : YInv R N 1 x) (hin : x.i < N) (hi : x.i < 150) {r : WR} {ep nx sn fl tm ii : Int} {hd : Bool} {l : List Int} (hc : x.z.c1 = some ⟨ep, nx, sn, fl, tm, ii, hd, l⟩) (hr : wStep R ⟨ep, nx, sn, fl, tm, ii, hd, l⟩ x.z.W x.z.st = r) (e0 : r.k = 0) (J : ∀ p, YJ p R N cap o x ρ w I) : ∃ p, YKw p 1 9 R N cap o x ρ w I := by
  have F := h.facts hin hi
  obtain ⟨i, ⟨W, st, kd, wd, vl, ch, stb, kdb, wdb, vlb, chb, f, n, c0, c1, c2, c3, p0, q0, p1, q1, p2, q2, p3, q3, d0, d1, d2, d3⟩⟩ := x
  dsimp only at hin hi hc hr F
  subst hc
  have b := h.b
  obtain ⟨hin1, hi1, ewi, r1, r2, hl, hl16, w0, w1, s0, s1, n0, n1⟩ := F
  have ok : WOk R ⟨ep, nx, sn, fl, tm, ii, hd, l⟩ := b.o1
  have aft := wAft (st := st) ok b.hw
  have hend := wEnd (st := st) (W := W) ok
  rw [hr] at aft hend
  have hLn : r.W.length = 21 := aft.hl.trans hl
  have hLr := hLn.symm
  have hWn := aft.hw
  obtain ⟨hcm0, okn⟩ := aft.go e0
  have hnx : ¬ r.nx = 0 := by have := okn.nx0; dsimp only at this; omega
  have hc0 : r.c = 0 := wC hr (by omega)
  refine ⟨⟨c0, (some ⟨ep, nx, sn, fl, tm, ii, hd, l⟩), p0, p1, false, 1, false, 0, r, r00, ⟨R, ⟨ep, nx, sn, fl, tm, ii, hd, l⟩, ⟨0, 0, 0, 0, 0, none⟩, 23, W, st, kd, wd, vl, ch⟩⟩, ?_⟩
  have hX := hXTy ⟨c0, (some ⟨ep, nx, sn, fl, tm, ii, hd, l⟩), p0, p1, false, 1, false, 0, r, r00, ⟨R, ⟨ep, nx, sn, fl, tm, ii, hd, l⟩, ⟨0, 0, 0, 0, 0, none⟩, 23, W, st, kd, wd, vl, ch⟩⟩
  dsimp only [YKw, ykT, yH, ypH]
  refine sx hX [] 4000 rfl (by (simp [-List.getD_eq_getElem?_getD, -List.length_eq_zero_iff, conjP, r1, r2, hl, w0, w1, s0, s1, ok, hr, e0])) ?_
  refine sx hX [.K, .T, .K, .K, .K, .T, .K, .K, .K, .K, .T] 4000 rfl (by (simp [-List.getD_eq_getElem?_getD, -List.length_eq_zero_iff, conjP, getH, HE.so, r1, r2, hl, w0, w1, s0, s1, wrP, dwP, dwE, dlE, ok, hr, e0, hnx, hc0, hcm0])) ?_
  refine sx hX [.T] 4000 rfl (by (simp [-List.getD_eq_getElem?_getD, -List.length_eq_zero_iff, conjP, addOP, hnx])) ?_
  refine sx hX [.F] 4000 rfl (by (simp [-List.getD_eq_getElem?_getD, -List.length_eq_zero_iff, conjP])) ?_
  refine sx hX [.F] 4000 rfl (by (simp [-List.getD_eq_getElem?_getD, -List.length_eq_zero_iff, conjP, addOP])) ?_
  refine sx hX [.K, .K, .F, .K, .K, .F] 4000 rfl (by (simp [-List.getD_eq_getElem?_getD, -List.length_eq_zero_iff, conjP, getH, HE.so, hLn, hcm0])) ?_
  refine sx hX [.F] 4000 rfl (by (simp [-List.getD_eq_getElem?_getD, -List.length_eq_zero_iff, conjP, addOP])) ?_
  (simp only [hcm0, hc0]; refine J _ ⟨i + 1, ⟨r.W, st + 1, r.kd, r.wd, r.vl, r.ch, stb, kdb, wdb, vlb, chb, f, n, c0, some ⟨ep, r.nx, r.sn, r.fl, r.tm, r.i, r.hd, l⟩, c2, c3, p0, q0, p1, q1, p2, q2, p3, q3, d0, d1, d2, d3⟩⟩ ?iv rfl _ _ _ (sub_of [0, 1, 2, 3, 4, 5, 6, 7, 8, 9, 10, 11, 12, 13, 14, 15, 16, 17, 18, 19, 20, 21, 22, 23, 24, 25, 26, 27] rfl rfl rfl rfl ?tt ?hh ?ot ?ok); (case tt => simp only [ewi]; (exact clhY)); (case hh => (exact clhY)); (case ot => (exact clkY)); (case ok => (exact clkY)); (case iv => exact ⟨(BInv.nx (z' := ⟨r.W, st + 1, r.kd, r.wd, r.vl, r.ch, stb, kdb, wdb, vlb, chb, f, n, c0, some ⟨ep, r.nx, r.sn, r.fl, r.tm, r.i, r.hd, l⟩, c2, c3, p0, q0, p1, q1, p2, q2, p3, q3, d0, d1, d2, d3⟩) b hLn hWn (b.o0) (okn) (b.o2) (b.o3) (hi := by show 2 * i + 1 + 1 ≤ 10000; omega)).mono (by show 2 * i + 1 + 1 ≤ 2 * (i + 1) + 0; omega) (by show 2 * (i + 1) + 0 ≤ 10000; omega), by show i + 1 + 0 ≤ N; omega, by show i + 1 + 0 ≤ 150; omega⟩))
set_option maxHeartbeats 8000000 in
theorem yw11 (h : YInv R N 1 x) (hin : x.i < N) (hi : x.i < 150) {r : WR} {ep nx sn fl tm ii : Int} {hd : Bool} {l : List Int} (hc : x.z.c1 = some ⟨ep, nx, sn, fl, tm, ii, hd, l⟩) (hr : wStep R ⟨ep, nx, sn, fl, tm, ii, hd, l⟩ x.z.W x.z.st = r) (e0 : r.k = 1) (J : ∀ p, YJ p R N cap o x ρ w I) : ∃ p, YKw p 1 9 R N cap o x ρ w I := by
  have F := h.facts hin hi
  obtain ⟨i, ⟨W, st, kd, wd, vl, ch, stb, kdb, wdb, vlb, chb, f, n, c0, c1, c2, c3, p0, q0, p1, q1, p2, q2, p3, q3, d0, d1, d2, d3⟩⟩ := x
  dsimp only at hin hi hc hr F
  subst hc
  have b := h.b
  obtain ⟨hin1, hi1, ewi, r1, r2, hl, hl16, w0, w1, s0, s1, n0, n1⟩ := F
  have ok : WOk R ⟨ep, nx, sn, fl, tm, ii, hd, l⟩ := b.o1
  have aft := wAft (st := st) ok b.hw
  have hend := wEnd (st := st) (W := W) ok
  rw [hr] at aft hend
  have hLn : r.W.length = 21 := aft.hl.trans hl
  have hLr := hLn.symm
  have hWn := aft.hw
  have hnx : r.nx = 0 := hend.1 (by omega)
  refine ⟨⟨c0, (some ⟨ep, nx, sn, fl, tm, ii, hd, l⟩), p0, p1, false, 1, false, 1, r, r00, ⟨R, ⟨ep, nx, sn, fl, tm, ii, hd, l⟩, ⟨0, 0, 0, 0, 0, none⟩, 23, W, st, kd, wd, vl, ch⟩⟩, ?_⟩
  have hX := hXTy ⟨c0, (some ⟨ep, nx, sn, fl, tm, ii, hd, l⟩), p0, p1, false, 1, false, 1, r, r00, ⟨R, ⟨ep, nx, sn, fl, tm, ii, hd, l⟩, ⟨0, 0, 0, 0, 0, none⟩, 23, W, st, kd, wd, vl, ch⟩⟩
  dsimp only [YKw, ykT, yH, ypH]
  refine sx hX [] 4000 rfl (by (simp [-List.getD_eq_getElem?_getD, -List.length_eq_zero_iff, conjP, r1, r2, hl, w0, w1, s0, s1, ok, hr, e0])) ?_
  refine sx hX [.K, .T, .K, .K, .K, .T, .K, .K, .K, .K, .T] 4000 rfl (by (simp [-List.getD_eq_getElem?_getD, -List.length_eq_zero_iff, conjP, getH, HE.so, r1, r2, hl, w0, w1, s0, s1, wrP, dwP, dwE, dlE, ok, hr, e0, hnx])) ?_
  refine sx hX [.F] 4000 rfl (by (simp [-List.getD_eq_getElem?_getD, -List.length_eq_zero_iff, conjP, hnx])) ?_
  refine sx hX [.F] 4000 rfl (by (simp [-List.getD_eq_getElem?_getD, -List.length_eq_zero_iff, conjP, addOP])) ?_
  refine sx hX [.K, .K, .F, .K, .K, .F] 4000 rfl (by (simp [-List.getD_eq_getElem?_getD, -List.length_eq_zero_iff, conjP, getH, HE.so, hLn])) ?_
  refine sx hX [.F] 4000 rfl (by (simp [-List.getD_eq_getElem?_getD, -List.length_eq_zero_iff, conjP, addOP])) ?_
  (refine ss_raw hX 9 2 rfl rfl fun v => ?_; refine J _ ⟨i + 1, ⟨r.W, st + 1, r.kd, r.wd, r.vl, r.ch, stb, kdb, wdb, vlb, chb, f, n, c0, none, c2, c3, p0, q0, v, q1, p2, q2, p3, q3, d0, d1, d2, d3⟩⟩ ?iv rfl _ _ _ (sub_of [0, 1, 2, 3, 4, 5, 6, 7, 8, 9, 10, 11, 12, 13, 60, 61, 16, 17, 18, 19, 20, 21, 62, 63, 24, 25, 26, 27] rfl rfl rfl rfl ?tt ?hh ?ot ?ok); (case tt => simp only [ewi]; (exact clhY)); (case hh => (exact clhY)); (case ot => (exact clkY)); (case ok => (exact clkY)); (case iv => exact ⟨(BInv.nx (z' := ⟨r.W, st + 1, r.kd, r.wd, r.vl, r.ch, stb, kdb, wdb, vlb, chb, f, n, c0, none, c2, c3, p0, q0, v, q1, p2, q2, p3, q3, d0, d1, d2, d3⟩) b hLn hWn (b.o0) (trivial) (b.o2) (b.o3) (hi := by show 2 * i + 1 + 1 ≤ 10000; omega)).mono (by show 2 * i + 1 + 1 ≤ 2 * (i + 1) + 0; omega) (by show 2 * (i + 1) + 0 ≤ 10000; omega), by show i + 1 + 0 ≤ N; omega, by show i + 1 + 0 ≤ 150; omega⟩))
set_option maxHeartbeats 8000000 in
theorem yw12 (h : YInv R N 1 x) (hin : x.i < N) (hi : x.i < 150) {r : WR} {ep nx sn fl tm ii : Int} {hd : Bool} {l : List Int} (hc : x.z.c1 = some ⟨ep, nx, sn, fl, tm, ii, hd, l⟩) (hr : wStep R ⟨ep, nx, sn, fl, tm, ii, hd, l⟩ x.z.W x.z.st = r) (e0 : r.k = 2) (J : ∀ p, YJ p R N cap o x ρ w I) : ∃ p, YKw p 1 9 R N cap o x ρ w I := by
  have F := h.facts hin hi
  obtain ⟨i, ⟨W, st, kd, wd, vl, ch, stb, kdb, wdb, vlb, chb, f, n, c0, c1, c2, c3, p0, q0, p1, q1, p2, q2, p3, q3, d0, d1, d2, d3⟩⟩ := x
  dsimp only at hin hi hc hr F
  subst hc
  have b := h.b
  obtain ⟨hin1, hi1, ewi, r1, r2, hl, hl16, w0, w1, s0, s1, n0, n1⟩ := F
  have ok : WOk R ⟨ep, nx, sn, fl, tm, ii, hd, l⟩ := b.o1
  have aft := wAft (st := st) ok b.hw
  have hend := wEnd (st := st) (W := W) ok
  rw [hr] at aft hend
  have hLn : r.W.length = 21 := aft.hl.trans hl
  have hLr := hLn.symm
  have hWn := aft.hw
  have hnx : r.nx = 0 := hend.1 (by omega)
  have hc0 : r.c = 0 := wC hr (by omega)
  refine ⟨⟨c0, (some ⟨ep, nx, sn, fl, tm, ii, hd, l⟩), p0, p1, false, 1, false, 2, r, r00, ⟨R, ⟨ep, nx, sn, fl, tm, ii, hd, l⟩, ⟨0, 0, 0, 0, 0, none⟩, 23, W, st, kd, wd, vl, ch⟩⟩, ?_⟩
  have hX := hXTy ⟨c0, (some ⟨ep, nx, sn, fl, tm, ii, hd, l⟩), p0, p1, false, 1, false, 2, r, r00, ⟨R, ⟨ep, nx, sn, fl, tm, ii, hd, l⟩, ⟨0, 0, 0, 0, 0, none⟩, 23, W, st, kd, wd, vl, ch⟩⟩
  dsimp only [YKw, ykT, yH, ypH]
  refine sx hX [] 4000 rfl (by (simp [-List.getD_eq_getElem?_getD, -List.length_eq_zero_iff, conjP, r1, r2, hl, w0, w1, s0, s1, ok, hr, e0])) ?_
  refine sx hX [.K, .T, .K, .K, .K, .T, .K, .K, .K, .K, .T] 4000 rfl (by (simp [-List.getD_eq_getElem?_getD, -List.length_eq_zero_iff, conjP, getH, HE.so, r1, r2, hl, w0, w1, s0, s1, wrP, dwP, dwE, dlE, ok, hr, e0, hnx, hc0])) ?_
  refine sx hX [.F] 4000 rfl (by (simp [-List.getD_eq_getElem?_getD, -List.length_eq_zero_iff, conjP, addOP, hnx])) ?_
  refine sx hX [.F] 4000 rfl (by (simp [-List.getD_eq_getElem?_getD, -List.length_eq_zero_iff, conjP, addOP, hc0])) ?_
  refine sx hX [.K, .K, .F, .K, .K, .F] 4000 rfl (by (simp [-List.getD_eq_getElem?_getD, -List.length_eq_zero_iff, conjP, getH, HE.so, hLn])) ?_
  refine sx hX [.F] 4000 rfl (by (simp [-List.getD_eq_getElem?_getD, -List.length_eq_zero_iff, conjP, addOP])) ?_
  (refine ss_raw hX 9 2 rfl rfl fun v => ?_; refine J _ ⟨i + 1, ⟨r.W, st + 1, r.kd, r.wd, r.vl, r.ch, stb, kdb, wdb, vlb, chb, f, n, c0, none, c2, c3, p0, q0, v, q1, p2, q2, p3, q3, d0, d1, d2, d3⟩⟩ ?iv rfl _ _ _ (sub_of [0, 1, 2, 3, 4, 5, 6, 7, 8, 9, 10, 11, 12, 13, 60, 61, 16, 17, 18, 19, 20, 21, 62, 63, 24, 25, 26, 27] rfl rfl rfl rfl ?tt ?hh ?ot ?ok); (case tt => simp only [ewi]; (exact clhY)); (case hh => (exact clhY)); (case ot => (exact clkY)); (case ok => (exact clkY)); (case iv => exact ⟨(BInv.nx (z' := ⟨r.W, st + 1, r.kd, r.wd, r.vl, r.ch, stb, kdb, wdb, vlb, chb, f, n, c0, none, c2, c3, p0, q0, v, q1, p2, q2, p3, q3, d0, d1, d2, d3⟩) b hLn hWn (b.o0) (trivial) (b.o2) (b.o3) (hi := by show 2 * i + 1 + 1 ≤ 10000; omega)).mono (by show 2 * i + 1 + 1 ≤ 2 * (i + 1) + 0; omega) (by show 2 * (i + 1) + 0 ≤ 10000; omega), by show i + 1 + 0 ≤ N; omega, by show i + 1 + 0 ≤ 150; omega⟩))
theorem yt1 (h : YInv R N 1 x) (hin : x.i < N) (hi : x.i < 150) (hne : x.z.c1 ≠ none) (J : ∀ p, YJ p R N cap o x ρ w I) : ∃ p, YKw p 1 9 R N cap o x ρ w I := by
  rcases hc : x.z.c1 with _ | ⟨ep, nx, sn, fl, tm, ii, hd, l⟩
  · exact absurd hc hne
  · have ok : WOk R ⟨ep, nx, sn, fl, tm, ii, hd, l⟩ := by have q := h.b.o1; rw [hc] at q; exact q
    have k2 := (wAft (st := x.z.st) ok h.b.hw).k2
    have kc : (wStep R ⟨ep, nx, sn, fl, tm, ii, hd, l⟩ x.z.W x.z.st).k = 0 ∨ (wStep R ⟨ep, nx, sn, fl, tm, ii, hd, l⟩ x.z.W x.z.st).k = 1 ∨ (wStep R ⟨ep, nx, sn, fl, tm, ii, hd, l⟩ x.z.W x.z.st).k = 2 := by omega
    rcases kc with e | e | e
    · exact yw10 h hin hi hc rfl e J
    · exact yw11 h hin hi hc rfl e J
    · exact yw12 h hin hi hc rfl e J
end
end Go.Proofs.YtmghcelohnlceaaGreatDoor
