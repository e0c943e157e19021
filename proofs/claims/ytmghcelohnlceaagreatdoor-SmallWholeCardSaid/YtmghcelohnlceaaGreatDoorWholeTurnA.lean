/- SmallWhole: client 0 has its turn. -/
import Derived.Test.YtmghcelohnlceaaGreatDoorWholeBegin
namespace Go.Proofs.YtmghcelohnlceaaGreatDoor
open Go Go.Hx
set_option maxRecDepth 8000
section
variable {R : Int} {N cap : Nat} {o : Nat → Int × Int} {x : XS} {ρ : Nat → Nat × Nat} {w : World} {I : Act → World → Prop}

set_option maxHeartbeats 8000000 in
theorem xw00 (h : XInv R N 1 x) (hin : x.i < N) (hi : x.i < 200) {r : WR} {ep nx sn fl tm ii : Int} {hd : Bool} {l : List Int} (hc : x.z.c0 = some ⟨ep, nx, sn, fl, tm, ii, hd, l⟩) (hr : wStep R ⟨ep, nx, sn, fl, tm, ii, hd, l⟩ x.z.W x.z.st = r) (e0 : r.k = 0) (J : ∀ p, XJJ p R N cap o x ρ w I) : ∃ p, XKw p 0 8 R N cap o x ρ w I := by
  have F := h.facts hin hi
  obtain ⟨i, ⟨W, st, kd, wd, vl, ch, stb, kdb, wdb, vlb, chb, f, n, c0, c1, c2, c3, p0, q0, p1, q1, p2, q2, p3, q3, d0, d1, d2, d3⟩, now, bm, ds, mm, g0, g1, h2, h3⟩ := x
  dsimp only at hin hi hc hr F
  subst hc
  have b := h.b
  have m := h.m
  obtain ⟨hin1, hi1, ewi, r1, r2, hl, hl16, w0, w1, s0, s1, n0, n1⟩ := F
  have ok : WOk R ⟨ep, nx, sn, fl, tm, ii, hd, l⟩ := b.o0
  have aft := wAft (st := st) ok b.hw
  have hh := wHold (st := st) ok hl16
  have hend := wEnd (st := st) (W := W) ok
  rw [hr] at aft hh hend
  have hLn : r.W.length = 21 := aft.hl.trans hl
  have hLr := hLn.symm
  have hWn := aft.hw
  obtain ⟨hcm0, okn⟩ := aft.go e0
  have hkp : WKp W r.W := keep_on h.j m ok hl hr e0
  refine ⟨⟨f, (some ⟨ep, nx, sn, fl, tm, ii, hd, l⟩), c1, false, 0, false, 0, r, r00⟩, ?_⟩
  have hX := hXTw ⟨f, (some ⟨ep, nx, sn, fl, tm, ii, hd, l⟩), c1, false, 0, false, 0, r, r00⟩
  dsimp only [XKw, xkT, xwH, wdH]
  refine sx hX [] 4000 rfl (by (simp [-List.getD_eq_getElem?_getD, -List.length_eq_zero_iff, conjP, getH, HE.so, r1, r2, hl, w0, w1, s0, s1, ok, hr, e0, hLn])) ?_
  (simp only [hcm0]; refine J _ ⟨i + 1, ⟨r.W, st + 1, r.kd, r.wd, r.vl, r.ch, stb, kdb, wdb, vlb, chb, true, n, some ⟨ep, r.nx, r.sn, r.fl, r.tm, r.i, r.hd, l⟩, c1, c2, c3, p0, q0, p1, q1, p2, q2, p3, q3, d0, d1, d2, d3⟩, now, bm, ds, mm, g0, g1, h2, h3⟩ ?iv rfl _ _ _ (sub_of [0, 1, 2, 3, 4, 5, 24, 7, 8, 9, 10, 11, 12, 13, 14, 15, 16, 17, 18, 19, 20, 21, 22, 23] rfl rfl rfl rfl ?tt ?hh ?ot ?ok); (case tt => simp only [ewi]; (exact clhX)); (case hh => (exact clhX)); (case ot => (exact clkX)); (case ok => (exact clkX)); (case iv => exact ⟨(BInv.nx (z' := ⟨r.W, st + 1, r.kd, r.wd, r.vl, r.ch, stb, kdb, wdb, vlb, chb, true, n, some ⟨ep, r.nx, r.sn, r.fl, r.tm, r.i, r.hd, l⟩, c1, c2, c3, p0, q0, p1, q1, p2, q2, p3, q3, d0, d1, d2, d3⟩) b hLn hWn (okn) (b.o1) (b.o2) (b.o3) (hi := by show 2 * i + 1 + 1 ≤ 10000; omega)).mono (by show 2 * i + 1 + 1 ≤ 2 * (i + 1) + 0; omega) (by show 2 * (i + 1) + 0 ≤ 10000; omega), by show i + 1 + 0 ≤ N; omega, by show i + 1 + 0 ≤ 200; omega, m.on ok b.o1 hh e0, h.j.on m ok b.o1 hl hr e0, h.bf, h.dl, h.dv, by (show epW ((r.W).getD 7 0) ≤ ((i + 1 : Nat) : Int)); have := h.ep; dsimp only at this; have := hkp.ep; omega, fun s hs => (h.q2 s hs).keep hkp h.j.mb, fun s hs => (h.q3 s hs).keep hkp h.j.mb⟩))
set_option maxHeartbeats 8000000 in
theorem xw01 (h : XInv R N 1 x) (hin : x.i < N) (hi : x.i < 200) {r : WR} {ep nx sn fl tm ii : Int} {hd : Bool} {l : List Int} (hc : x.z.c0 = some ⟨ep, nx, sn, fl, tm, ii, hd, l⟩) (hr : wStep R ⟨ep, nx, sn, fl, tm, ii, hd, l⟩ x.z.W x.z.st = r) (e0 : r.k = 1) (J : ∀ p, XJJ p R N cap o x ρ w I) : ∃ p, XKw p 0 8 R N cap o x ρ w I := by
  have F := h.facts hin hi
  obtain ⟨i, ⟨W, st, kd, wd, vl, ch, stb, kdb, wdb, vlb, chb, f, n, c0, c1, c2, c3, p0, q0, p1, q1, p2, q2, p3, q3, d0, d1, d2, d3⟩, now, bm, ds, mm, g0, g1, h2, h3⟩ := x
  dsimp only at hin hi hc hr F
  subst hc
  have b := h.b
  have m := h.m
  obtain ⟨hin1, hi1, ewi, r1, r2, hl, hl16, w0, w1, s0, s1, n0, n1⟩ := F
  have ok : WOk R ⟨ep, nx, sn, fl, tm, ii, hd, l⟩ := b.o0
  have aft := wAft (st := st) ok b.hw
  have hh := wHold (st := st) ok hl16
  have hend := wEnd (st := st) (W := W) ok
  rw [hr] at aft hh hend
  have hLn : r.W.length = 21 := aft.hl.trans hl
  have hLr := hLn.symm
  have hWn := aft.hw
  have hkp : WKp W r.W := keep_err ok hr e0
  have hnx : r.nx = 0 := hend.1 (by omega)
  have hcn : ¬ r.c = 0 := by rcases hend.2 e0 with q | q | q <;> omega
  refine ⟨⟨f, (some ⟨ep, nx, sn, fl, tm, ii, hd, l⟩), c1, false, 0, false, 1, r, r00⟩, ?_⟩
  have hX := hXTw ⟨f, (some ⟨ep, nx, sn, fl, tm, ii, hd, l⟩), c1, false, 0, false, 1, r, r00⟩
  dsimp only [XKw, xkT, xwH, wdH]
  refine sx hX [] 4000 rfl (by (simp [-List.getD_eq_getElem?_getD, -List.length_eq_zero_iff, conjP, r1, r2, hl, w0, w1, s0, s1, ok, hr, e0])) ?_
  refine sx hX [.F] 4000 rfl (by (simp [-List.getD_eq_getElem?_getD, -List.length_eq_zero_iff, conjP, hnx])) ?_
  refine sx hX [.F] 4000 rfl (by (simp [-List.getD_eq_getElem?_getD, -List.length_eq_zero_iff, conjP, getH, HE.so, hLn, hcn])) ?_
  (refine J _ ⟨i + 1, ⟨r.W, st + 1, r.kd, r.wd, r.vl, r.ch, stb, kdb, wdb, vlb, chb, true, n, none, c1, c2, c3, p0, q0, p1, q1, p2, q2, p3, q3, d0, d1, d2, d3⟩, now, bm, ds, mm, g0, g1, h2, h3⟩ ?iv rfl _ _ _ (sub_of [0, 1, 2, 3, 4, 5, 24, 7, 8, 9, 10, 11, 60, 61, 14, 15, 16, 17, 18, 19, 20, 21, 22, 23] rfl rfl rfl rfl ?tt ?hh ?ot ?ok); (case tt => simp only [ewi]; (exact clhX)); (case hh => (exact clhX)); (case ot => (exact clkX)); (case ok => (exact clkX)); (case iv => exact ⟨(BInv.nx (z' := ⟨r.W, st + 1, r.kd, r.wd, r.vl, r.ch, stb, kdb, wdb, vlb, chb, true, n, none, c1, c2, c3, p0, q0, p1, q1, p2, q2, p3, q3, d0, d1, d2, d3⟩) b hLn hWn (trivial) (b.o1) (b.o2) (b.o3) (hi := by show 2 * i + 1 + 1 ≤ 10000; omega)).mono (by show 2 * i + 1 + 1 ≤ 2 * (i + 1) + 0; omega) (by show 2 * (i + 1) + 0 ≤ 10000; omega), by show i + 1 + 0 ≤ N; omega, by show i + 1 + 0 ≤ 200; omega, m.off hh (.inl e0), h.j.err ok hr e0, h.bf, h.dl, h.dv, by (show epW ((r.W).getD 7 0) ≤ ((i + 1 : Nat) : Int)); have := h.ep; dsimp only at this; have := hkp.ep; omega, fun s hs => (h.q2 s hs).keep hkp h.j.mb, fun s hs => (h.q3 s hs).keep hkp h.j.mb⟩))
set_option maxHeartbeats 8000000 in
theorem xw02 (h : XInv R N 1 x) (hin : x.i < N) (hi : x.i < 200) {r : WR} {ep nx sn fl tm ii : Int} {hd : Bool} {l : List Int} (hc : x.z.c0 = some ⟨ep, nx, sn, fl, tm, ii, hd, l⟩) (hr : wStep R ⟨ep, nx, sn, fl, tm, ii, hd, l⟩ x.z.W x.z.st = r) (e0 : r.k = 2) (J : ∀ p, XJJ p R N cap o x ρ w I) : ∃ p, XKw p 0 8 R N cap o x ρ w I := by
  have F := h.facts hin hi
  obtain ⟨i, ⟨W, st, kd, wd, vl, ch, stb, kdb, wdb, vlb, chb, f, n, c0, c1, c2, c3, p0, q0, p1, q1, p2, q2, p3, q3, d0, d1, d2, d3⟩, now, bm, ds, mm, g0, g1, h2, h3⟩ := x
  dsimp only at hin hi hc hr F
  subst hc
  have b := h.b
  have m := h.m
  obtain ⟨hin1, hi1, ewi, r1, r2, hl, hl16, w0, w1, s0, s1, n0, n1⟩ := F
  have ok : WOk R ⟨ep, nx, sn, fl, tm, ii, hd, l⟩ := b.o0
  have aft := wAft (st := st) ok b.hw
  have hh := wHold (st := st) ok hl16
  have hend := wEnd (st := st) (W := W) ok
  rw [hr] at aft hh hend
  have hLn : r.W.length = 21 := aft.hl.trans hl
  have hLr := hLn.symm
  have hWn := aft.hw
  have hep : epW (r.W.getD 7 0) = epW (W.getD 7 0) := ep_fin m ok hl hr e0
  have hnx : r.nx = 0 := hend.1 (by omega)
  refine ⟨⟨f, (some ⟨ep, nx, sn, fl, tm, ii, hd, l⟩), c1, false, 0, false, 2, r, r00⟩, ?_⟩
  have hX := hXTw ⟨f, (some ⟨ep, nx, sn, fl, tm, ii, hd, l⟩), c1, false, 0, false, 2, r, r00⟩
  dsimp only [XKw, xkT, xwH, wdH]
  refine sx hX [] 4000 rfl (by (simp [-List.getD_eq_getElem?_getD, -List.length_eq_zero_iff, conjP, r1, r2, hl, w0, w1, s0, s1, ok, hr, e0])) ?_
  refine sx hX [.F] 4000 rfl (by (simp [-List.getD_eq_getElem?_getD, -List.length_eq_zero_iff, conjP, addOP, hnx])) ?_
  refine sx hX [.T] 4000 rfl (by (simp [-List.getD_eq_getElem?_getD, -List.length_eq_zero_iff, conjP, getH, HE.so, hLn])) ?_
  (refine J _ ⟨i + 1, ⟨r.W, st + 1, r.kd, r.wd, r.vl, r.ch, stb, kdb, wdb, vlb, chb, true, n, none, c1, c2, c3, p0, q0, p1, q1, p2, q2, p3, q3, d0, d1, d2, d3⟩, g0, bm, ds, mm, g0, g1, h2, h3⟩ ?iv rfl _ _ _ (sub_of [0, 1, 2, 3, 4, 5, 24, 7, 8, 9, 10, 11, 60, 61, 14, 15, 16, 17, 18, 19, 20, 21, 22, 23] rfl rfl rfl rfl ?tt ?hh ?ot ?ok); (case tt => simp only [ewi]; (exact clhX)); (case hh => (exact clhX)); (case ot => (exact clkX)); (case ok => (exact clkX)); (case iv => exact ⟨(BInv.nx (z' := ⟨r.W, st + 1, r.kd, r.wd, r.vl, r.ch, stb, kdb, wdb, vlb, chb, true, n, none, c1, c2, c3, p0, q0, p1, q1, p2, q2, p3, q3, d0, d1, d2, d3⟩) b hLn hWn (trivial) (b.o1) (b.o2) (b.o3) (hi := by show 2 * i + 1 + 1 ≤ 10000; omega)).mono (by show 2 * i + 1 + 1 ≤ 2 * (i + 1) + 0; omega) (by show 2 * (i + 1) + 0 ≤ 10000; omega), by show i + 1 + 0 ≤ N; omega, by show i + 1 + 0 ≤ 200; omega, m.off hh (.inr e0), h.j.fin m ok hl hr e0, h.bf, h.dl, h.dv, by (show epW ((r.W).getD 7 0) ≤ ((i + 1 : Nat) : Int)); have := h.ep; dsimp only at this; have := hep; omega, fun s hs => (h.q2 s hs).fin m ok hl hr e0, fun s hs => (h.q3 s hs).fin m ok hl hr e0⟩))
theorem xt0 (h : XInv R N 1 x) (hin : x.i < N) (hi : x.i < 200) (hne : x.z.c0 ≠ none) (J : ∀ p, XJJ p R N cap o x ρ w I) : ∃ p, XKw p 0 8 R N cap o x ρ w I := by
  rcases hc : x.z.c0 with _ | ⟨ep, nx, sn, fl, tm, ii, hd, l⟩
  · exact absurd hc hne
  · have ok : WOk R ⟨ep, nx, sn, fl, tm, ii, hd, l⟩ := by have q := h.b.o0; rw [hc] at q; exact q
    have k2 := (wAft (st := x.z.st) ok h.b.hw).k2
    have kc : (wStep R ⟨ep, nx, sn, fl, tm, ii, hd, l⟩ x.z.W x.z.st).k = 0 ∨ (wStep R ⟨ep, nx, sn, fl, tm, ii, hd, l⟩ x.z.W x.z.st).k = 1 ∨ (wStep R ⟨ep, nx, sn, fl, tm, ii, hd, l⟩ x.z.W x.z.st).k = 2 := by omega
    rcases kc with e | e | e
    · exact xw00 h hin hi hc rfl e J
    · exact xw01 h hin hi hc rfl e J
    · exact xw02 h hin hi hc rfl e J
end
end Go.Proofs.YtmghcelohnlceaaGreatDoor

/- SmallWhole: client 1 has its turn. -/
namespace Go.Proofs.YtmghcelohnlceaaGreatDoor
open Go Go.Hx
set_option maxRecDepth 8000
section
variable {R : Int} {N cap : Nat} {o : Nat → Int × Int} {x : XS} {ρ : Nat → Nat × Nat} {w : World} {I : Act → World → Prop}

set_option maxHeartbeats 8000000 in
theorem xw10 (h : XInv R N 1 x) (hin : x.i < N) (hi : x.i < 200) {r : WR} {ep nx sn fl tm ii : Int} {hd : Bool} {l : List Int} (hc : x.z.c1 = some ⟨ep, nx, sn, fl, tm, ii, hd, l⟩) (hr : wStep R ⟨ep, nx, sn, fl, tm, ii, hd, l⟩ x.z.W x.z.st = r) (e0 : r.k = 0) (J : ∀ p, XJJ p R N cap o x ρ w I) : ∃ p, XKw p 1 9 R N cap o x ρ w I := by
  have F := h.facts hin hi
  obtain ⟨i, ⟨W, st, kd, wd, vl, ch, stb, kdb, wdb, vlb, chb, f, n, c0, c1, c2, c3, p0, q0, p1, q1, p2, q2, p3, q3, d0, d1, d2, d3⟩, now, bm, ds, mm, g0, g1, h2, h3⟩ := x
  dsimp only at hin hi hc hr F
  subst hc
  have b := h.b
  have m := h.m
  obtain ⟨hin1, hi1, ewi, r1, r2, hl, hl16, w0, w1, s0, s1, n0, n1⟩ := F
  have ok : WOk R ⟨ep, nx, sn, fl, tm, ii, hd, l⟩ := b.o1
  have aft := wAft (st := st) ok b.hw
  have hh := wHold (st := st) ok hl16
  have hend := wEnd (st := st) (W := W) ok
  rw [hr] at aft hh hend
  have hLn : r.W.length = 21 := aft.hl.trans hl
  have hLr := hLn.symm
  have hWn := aft.hw
  obtain ⟨hcm0, okn⟩ := aft.go e0
  have hkp : WKp W r.W := keep_on h.j.swap m.swap ok hl hr e0
  refine ⟨⟨f, c0, (some ⟨ep, nx, sn, fl, tm, ii, hd, l⟩), false, 1, false, 0, r, r00⟩, ?_⟩
  have hX := hXTw ⟨f, c0, (some ⟨ep, nx, sn, fl, tm, ii, hd, l⟩), false, 1, false, 0, r, r00⟩
  dsimp only [XKw, xkT, xwH, wdH]
  refine sx hX [] 4000 rfl (by (simp [-List.getD_eq_getElem?_getD, -List.length_eq_zero_iff, conjP, getH, HE.so, r1, r2, hl, w0, w1, s0, s1, ok, hr, e0, hLn])) ?_
  (simp only [hcm0]; refine J _ ⟨i + 1, ⟨r.W, st + 1, r.kd, r.wd, r.vl, r.ch, stb, kdb, wdb, vlb, chb, true, n, c0, some ⟨ep, r.nx, r.sn, r.fl, r.tm, r.i, r.hd, l⟩, c2, c3, p0, q0, p1, q1, p2, q2, p3, q3, d0, d1, d2, d3⟩, now, bm, ds, mm, g0, g1, h2, h3⟩ ?iv rfl _ _ _ (sub_of [0, 1, 2, 3, 4, 5, 24, 7, 8, 9, 10, 11, 12, 13, 14, 15, 16, 17, 18, 19, 20, 21, 22, 23] rfl rfl rfl rfl ?tt ?hh ?ot ?ok); (case tt => simp only [ewi]; (exact clhX)); (case hh => (exact clhX)); (case ot => (exact clkX)); (case ok => (exact clkX)); (case iv => exact ⟨(BInv.nx (z' := ⟨r.W, st + 1, r.kd, r.wd, r.vl, r.ch, stb, kdb, wdb, vlb, chb, true, n, c0, some ⟨ep, r.nx, r.sn, r.fl, r.tm, r.i, r.hd, l⟩, c2, c3, p0, q0, p1, q1, p2, q2, p3, q3, d0, d1, d2, d3⟩) b hLn hWn (b.o0) (okn) (b.o2) (b.o3) (hi := by show 2 * i + 1 + 1 ≤ 10000; omega)).mono (by show 2 * i + 1 + 1 ≤ 2 * (i + 1) + 0; omega) (by show 2 * (i + 1) + 0 ≤ 10000; omega), by show i + 1 + 0 ≤ N; omega, by show i + 1 + 0 ≤ 200; omega, (m.swap.on ok b.o0 hh e0).swap, (h.j.swap.on m.swap ok b.o0 hl hr e0).swap, h.bf, h.dl, h.dv, by (show epW ((r.W).getD 7 0) ≤ ((i + 1 : Nat) : Int)); have := h.ep; dsimp only at this; have := hkp.ep; omega, fun s hs => (h.q2 s hs).keep hkp h.j.mb, fun s hs => (h.q3 s hs).keep hkp h.j.mb⟩))
set_option maxHeartbeats 8000000 in
theorem xw11 (h : XInv R N 1 x) (hin : x.i < N) (hi : x.i < 200) {r : WR} {ep nx sn fl tm ii : Int} {hd : Bool} {l : List Int} (hc : x.z.c1 = some ⟨ep, nx, sn, fl, tm, ii, hd, l⟩) (hr : wStep R ⟨ep, nx, sn, fl, tm, ii, hd, l⟩ x.z.W x.z.st = r) (e0 : r.k = 1) (J : ∀ p, XJJ p R N cap o x ρ w I) : ∃ p, XKw p 1 9 R N cap o x ρ w I := by
  have F := h.facts hin hi
  obtain ⟨i, ⟨W, st, kd, wd, vl, ch, stb, kdb, wdb, vlb, chb, f, n, c0, c1, c2, c3, p0, q0, p1, q1, p2, q2, p3, q3, d0, d1, d2, d3⟩, now, bm, ds, mm, g0, g1, h2, h3⟩ := x
  dsimp only at hin hi hc hr F
  subst hc
  have b := h.b
  have m := h.m
  obtain ⟨hin1, hi1, ewi, r1, r2, hl, hl16, w0, w1, s0, s1, n0, n1⟩ := F
  have ok : WOk R ⟨ep, nx, sn, fl, tm, ii, hd, l⟩ := b.o1
  have aft := wAft (st := st) ok b.hw
  have hh := wHold (st := st) ok hl16
  have hend := wEnd (st := st) (W := W) ok
  rw [hr] at aft hh hend
  have hLn : r.W.length = 21 := aft.hl.trans hl
  have hLr := hLn.symm
  have hWn := aft.hw
  have hkp : WKp W r.W := keep_err ok hr e0
  have hnx : r.nx = 0 := hend.1 (by omega)
  have hcn : ¬ r.c = 0 := by rcases hend.2 e0 with q | q | q <;> omega
  refine ⟨⟨f, c0, (some ⟨ep, nx, sn, fl, tm, ii, hd, l⟩), false, 1, false, 1, r, r00⟩, ?_⟩
  have hX := hXTw ⟨f, c0, (some ⟨ep, nx, sn, fl, tm, ii, hd, l⟩), false, 1, false, 1, r, r00⟩
  dsimp only [XKw, xkT, xwH, wdH]
  refine sx hX [] 4000 rfl (by (simp [-List.getD_eq_getElem?_getD, -List.length_eq_zero_iff, conjP, r1, r2, hl, w0, w1, s0, s1, ok, hr, e0])) ?_
  refine sx hX [.F] 4000 rfl (by (simp [-List.getD_eq_getElem?_getD, -List.length_eq_zero_iff, conjP, hnx])) ?_
  refine sx hX [.F] 4000 rfl (by (simp [-List.getD_eq_getElem?_getD, -List.length_eq_zero_iff, conjP, getH, HE.so, hLn, hcn])) ?_
  (refine J _ ⟨i + 1, ⟨r.W, st + 1, r.kd, r.wd, r.vl, r.ch, stb, kdb, wdb, vlb, chb, true, n, c0, none, c2, c3, p0, q0, p1, q1, p2, q2, p3, q3, d0, d1, d2, d3⟩, now, bm, ds, mm, g0, g1, h2, h3⟩ ?iv rfl _ _ _ (sub_of [0, 1, 2, 3, 4, 5, 24, 7, 8, 9, 10, 11, 12, 13, 60, 61, 16, 17, 18, 19, 20, 21, 22, 23] rfl rfl rfl rfl ?tt ?hh ?ot ?ok); (case tt => simp only [ewi]; (exact clhX)); (case hh => (exact clhX)); (case ot => (exact clkX)); (case ok => (exact clkX)); (case iv => exact ⟨(BInv.nx (z' := ⟨r.W, st + 1, r.kd, r.wd, r.vl, r.ch, stb, kdb, wdb, vlb, chb, true, n, c0, none, c2, c3, p0, q0, p1, q1, p2, q2, p3, q3, d0, d1, d2, d3⟩) b hLn hWn (b.o0) (trivial) (b.o2) (b.o3) (hi := by show 2 * i + 1 + 1 ≤ 10000; omega)).mono (by show 2 * i + 1 + 1 ≤ 2 * (i + 1) + 0; omega) (by show 2 * (i + 1) + 0 ≤ 10000; omega), by show i + 1 + 0 ≤ N; omega, by show i + 1 + 0 ≤ 200; omega, (m.swap.off hh (.inl e0)).swap, (h.j.swap.err ok hr e0).swap, h.bf, h.dl, h.dv, by (show epW ((r.W).getD 7 0) ≤ ((i + 1 : Nat) : Int)); have := h.ep; dsimp only at this; have := hkp.ep; omega, fun s hs => (h.q2 s hs).keep hkp h.j.mb, fun s hs => (h.q3 s hs).keep hkp h.j.mb⟩))
set_option maxHeartbeats 8000000 in
theorem xw12 (h : XInv R N 1 x) (hin : x.i < N) (hi : x.i < 200) {r : WR} {ep nx sn fl tm ii : Int} {hd : Bool} {l : List Int} (hc : x.z.c1 = some ⟨ep, nx, sn, fl, tm, ii, hd, l⟩) (hr : wStep R ⟨ep, nx, sn, fl, tm, ii, hd, l⟩ x.z.W x.z.st = r) (e0 : r.k = 2) (J : ∀ p, XJJ p R N cap o x ρ w I) : ∃ p, XKw p 1 9 R N cap o x ρ w I := by
  have F := h.facts hin hi
  obtain ⟨i, ⟨W, st, kd, wd, vl, ch, stb, kdb, wdb, vlb, chb, f, n, c0, c1, c2, c3, p0, q0, p1, q1, p2, q2, p3, q3, d0, d1, d2, d3⟩, now, bm, ds, mm, g0, g1, h2, h3⟩ := x
  dsimp only at hin hi hc hr F
  subst hc
  have b := h.b
  have m := h.m
  obtain ⟨hin1, hi1, ewi, r1, r2, hl, hl16, w0, w1, s0, s1, n0, n1⟩ := F
  have ok : WOk R ⟨ep, nx, sn, fl, tm, ii, hd, l⟩ := b.o1
  have aft := wAft (st := st) ok b.hw
  have hh := wHold (st := st) ok hl16
  have hend := wEnd (st := st) (W := W) ok
  rw [hr] at aft hh hend
  have hLn : r.W.length = 21 := aft.hl.trans hl
  have hLr := hLn.symm
  have hWn := aft.hw
  have hep : epW (r.W.getD 7 0) = epW (W.getD 7 0) := ep_fin m.swap ok hl hr e0
  have hnx : r.nx = 0 := hend.1 (by omega)
  refine ⟨⟨f, c0, (some ⟨ep, nx, sn, fl, tm, ii, hd, l⟩), false, 1, false, 2, r, r00⟩, ?_⟩
  have hX := hXTw ⟨f, c0, (some ⟨ep, nx, sn, fl, tm, ii, hd, l⟩), false, 1, false, 2, r, r00⟩
  dsimp only [XKw, xkT, xwH, wdH]
  refine sx hX [] 4000 rfl (by (simp [-List.getD_eq_getElem?_getD, -List.length_eq_zero_iff, conjP, r1, r2, hl, w0, w1, s0, s1, ok, hr, e0])) ?_
  refine sx hX [.F] 4000 rfl (by (simp [-List.getD_eq_getElem?_getD, -List.length_eq_zero_iff, conjP, addOP, hnx])) ?_
  refine sx hX [.T] 4000 rfl (by (simp [-List.getD_eq_getElem?_getD, -List.length_eq_zero_iff, conjP, getH, HE.so, hLn])) ?_
  (refine J _ ⟨i + 1, ⟨r.W, st + 1, r.kd, r.wd, r.vl, r.ch, stb, kdb, wdb, vlb, chb, true, n, c0, none, c2, c3, p0, q0, p1, q1, p2, q2, p3, q3, d0, d1, d2, d3⟩, g1, bm, ds, mm, g0, g1, h2, h3⟩ ?iv rfl _ _ _ (sub_of [0, 1, 2, 3, 4, 5, 24, 7, 8, 9, 10, 11, 12, 13, 60, 61, 16, 17, 18, 19, 20, 21, 22, 23] rfl rfl rfl rfl ?tt ?hh ?ot ?ok); (case tt => simp only [ewi]; (exact clhX)); (case hh => (exact clhX)); (case ot => (exact clkX)); (case ok => (exact clkX)); (case iv => exact ⟨(BInv.nx (z' := ⟨r.W, st + 1, r.kd, r.wd, r.vl, r.ch, stb, kdb, wdb, vlb, chb, true, n, c0, none, c2, c3, p0, q0, p1, q1, p2, q2, p3, q3, d0, d1, d2, d3⟩) b hLn hWn (b.o0) (trivial) (b.o2) (b.o3) (hi := by show 2 * i + 1 + 1 ≤ 10000; omega)).mono (by show 2 * i + 1 + 1 ≤ 2 * (i + 1) + 0; omega) (by show 2 * (i + 1) + 0 ≤ 10000; omega), by show i + 1 + 0 ≤ N; omega, by show i + 1 + 0 ≤ 200; omega, (m.swap.off hh (.inr e0)).swap, (h.j.swap.fin m.swap ok hl hr e0).swap, h.bf, h.dl, h.dv, by (show epW ((r.W).getD 7 0) ≤ ((i + 1 : Nat) : Int)); have := h.ep; dsimp only at this; have := hep; omega, fun s hs => (h.q2 s hs).fin m.swap ok hl hr e0, fun s hs => (h.q3 s hs).fin m.swap ok hl hr e0⟩))
theorem xt1 (h : XInv R N 1 x) (hin : x.i < N) (hi : x.i < 200) (hne : x.z.c1 ≠ none) (J : ∀ p, XJJ p R N cap o x ρ w I) : ∃ p, XKw p 1 9 R N cap o x ρ w I := by
  rcases hc : x.z.c1 with _ | ⟨ep, nx, sn, fl, tm, ii, hd, l⟩
  · exact absurd hc hne
  · have ok : WOk R ⟨ep, nx, sn, fl, tm, ii, hd, l⟩ := by have q := h.b.o1; rw [hc] at q; exact q
    have k2 := (wAft (st := x.z.st) ok h.b.hw).k2
    have kc : (wStep R ⟨ep, nx, sn, fl, tm, ii, hd, l⟩ x.z.W x.z.st).k = 0 ∨ (wStep R ⟨ep, nx, sn, fl, tm, ii, hd, l⟩ x.z.W x.z.st).k = 1 ∨ (wStep R ⟨ep, nx, sn, fl, tm, ii, hd, l⟩ x.z.W x.z.st).k = 2 := by omega
    rcases kc with e | e | e
    · exact xw10 h hin hi hc rfl e J
    · exact xw11 h hin hi hc rfl e J
    · exact xw12 h hin hi hc rfl e J
end
end Go.Proofs.YtmghcelohnlceaaGreatDoor
