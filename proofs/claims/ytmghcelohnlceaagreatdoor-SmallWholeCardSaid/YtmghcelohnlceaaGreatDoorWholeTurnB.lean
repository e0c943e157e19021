/- SmallWhole: client 2 has its turn. -/
import Derived.Test.YtmghcelohnlceaaGreatDoorWholeBegin
namespace Go.Proofs.YtmghcelohnlceaaGreatDoor
open Go Go.Hx
set_option maxRecDepth 8000
section
variable {R : Int} {N cap : Nat} {o : Nat → Int × Int} {x : XS} {ρ : Nat → Nat × Nat} {w : World} {I : Act → World → Prop}
def wnT2 (N cap : Nat) (x : XS) : List (Nat × SV) := (18, .sbuf 24 1 0 4) :: xwT N cap x
def wnH2 (N : Nat) (o : Nat → Int × Int) (R : Int) (x : XS) (l : List Int) : List HE := wdH (.obj (.rows N 2 (actR o))) R x.z [.obj (.ints .u64 [x.g0, x.g1, 0, 0] 67), .obj (.ints .u64 [0, 0, x.h2, x.h3] 67), idE .u64 x.b x.ds 39, idE .i64 x.b x.mm 3, wdE l]

set_option maxHeartbeats 8000000 in
theorem xr2n0 (h : XInv R N 1 x) (hin : x.i < N) (hi : x.i < 200) {r : RR} {ep nx sn fl tm : Int} (hc : x.z.c2 = some ⟨ep, nx, sn, fl, tm, none⟩) (hr : rStep R ⟨ep, nx, sn, fl, tm, none⟩ x.z.W x.z.st = r) (e0 : r.k = 0) (J : ∀ p, XJJ p R N cap o x ρ w I) : ∃ p, XKw p 2 10 R N cap o x ρ w I := by
  have F := h.facts hin hi
  obtain ⟨i, ⟨W, st, kd, wd, vl, ch, stb, kdb, wdb, vlb, chb, f, n, c0, c1, c2, c3, p0, q0, p1, q1, p2, q2, p3, q3, d0, d1, d2, d3⟩, now, bm, ds, mm, g0, g1, h2, h3⟩ := x
  dsimp only at hin hi hc hr F
  subst hc
  have b := h.b
  have m := h.m
  obtain ⟨hin1, hi1, ewi, r1, r2, hl, hl16, w0, w1, s0, s1, n0, n1⟩ := F
  have ok : ROk R ⟨ep, nx, sn, fl, tm, none⟩ := b.o2
  have aft := rAft (st := st) ok w0 w1
  have hwd := rWd (R := R) (s := ⟨ep, nx, sn, fl, tm, none⟩) (W := W) (st := st)
  have hend := rEnd (st := st) (W := W) ok
  rw [hr] at aft hwd hend
  have hLn := hl
  have hLr := hl.symm
  have hWn := b.hw
  have hst : st < st + 1 := by omega
  have hw7 : r.wd = 7 := hwd.1 (by omega)
  have okn := aft.go (.inl e0)
  obtain ⟨e4, e3, e2, e1, _⟩ := aft.lk e0
  rw [e3] at okn
  refine ⟨⟨f, c0, c1, false, 2, false, 0, w00, r⟩, ?_⟩
  have hX := hXTw ⟨f, c0, c1, false, 2, false, 0, w00, r⟩
  dsimp only [XKw, xkT, xwH, wdH]
  refine sx hX [] 4000 rfl (by (simp [-List.getD_eq_getElem?_getD, -List.length_eq_zero_iff, conjP, getH, HE.so, r1, r2, hl, w0, w1, s0, s1, slV, ok, hr, e0])) ?_
  refine sx hX [.K, .T] 4000 rfl (by (simp [-List.getD_eq_getElem?_getD, -List.length_eq_zero_iff, conjP, getH, HE.so, r1, r2, hl, hw7])) ?_
  refine sx hX [.T] 4000 rfl (by (simp [-List.getD_eq_getElem?_getD, -List.length_eq_zero_iff, conjP, hst])) ?_
  (refine J _ ⟨i + 1, ⟨W, st + 1, 1, r.wd, r.vl, false, stb, kdb, wdb, vlb, chb, true, n, c0, c1, some ⟨ep, r.nx, r.sn, r.fl, r.tm, none⟩, c3, p0, q0, p1, q1, p2, q2, p3, q3, d0, d1, d2, d3⟩, now, bm, ds, mm, g0, g1, now, h3⟩ ?iv rfl _ _ _ (sub_of [0, 1, 2, 3, 4, 5, 24, 7, 8, 9, 10, 11, 12, 13, 14, 15, 16, 61, 18, 19, 20, 21, 22, 23] rfl rfl rfl rfl ?tt ?hh ?ot ?ok); (case tt => simp only [ewi]; (exact clhX)); (case hh => (exact clhX)); (case ot => (exact clkX)); (case ok => (exact clkX)); (case iv => exact ⟨(BInv.nx (z' := ⟨W, st + 1, 1, r.wd, r.vl, false, stb, kdb, wdb, vlb, chb, true, n, c0, c1, some ⟨ep, r.nx, r.sn, r.fl, r.tm, none⟩, c3, p0, q0, p1, q1, p2, q2, p3, q3, d0, d1, d2, d3⟩) b hLn hWn (b.o0) (b.o1) (okn) (b.o3) (hi := by show 2 * i + 1 + 1 ≤ 10000; omega)).mono (by show 2 * i + 1 + 1 ≤ 2 * (i + 1) + 0; omega) (by show 2 * (i + 1) + 0 ≤ 10000; omega), by show i + 1 + 0 ≤ N; omega, by show i + 1 + 0 ≤ 200; omega, m, h.j, h.bf, h.dl, h.dv, by (show epW ((W).getD 7 0) ≤ ((i + 1 : Nat) : Int)); have := h.ep; dsimp only at this; omega, (fun s hs => by cases hs; exact RQ.look h.j ok w0 w1 hr e0 rfl), h.q3⟩))
set_option maxHeartbeats 8000000 in
theorem xr2n1 (h : XInv R N 1 x) (hin : x.i < N) (hi : x.i < 200) {r : RR} {ep nx sn fl tm : Int} (hc : x.z.c2 = some ⟨ep, nx, sn, fl, tm, none⟩) (hr : rStep R ⟨ep, nx, sn, fl, tm, none⟩ x.z.W x.z.st = r) (e0 : r.k = 1) (J : ∀ p, XJJ p R N cap o x ρ w I) : ∃ p, XKw p 2 10 R N cap o x ρ w I := by
  have F := h.facts hin hi
  obtain ⟨i, ⟨W, st, kd, wd, vl, ch, stb, kdb, wdb, vlb, chb, f, n, c0, c1, c2, c3, p0, q0, p1, q1, p2, q2, p3, q3, d0, d1, d2, d3⟩, now, bm, ds, mm, g0, g1, h2, h3⟩ := x
  dsimp only at hin hi hc hr F
  subst hc
  have b := h.b
  have m := h.m
  obtain ⟨hin1, hi1, ewi, r1, r2, hl, hl16, w0, w1, s0, s1, n0, n1⟩ := F
  have ok : ROk R ⟨ep, nx, sn, fl, tm, none⟩ := b.o2
  have aft := rAft (st := st) ok w0 w1
  have hwd := rWd (R := R) (s := ⟨ep, nx, sn, fl, tm, none⟩) (W := W) (st := st)
  have hend := rEnd (st := st) (W := W) ok
  rw [hr] at aft hwd hend
  have hLn := hl
  have hLr := hl.symm
  have hWn := b.hw
  have hst : st < st + 1 := by omega
  have hw7 : r.wd = 7 := hwd.1 (by omega)
  have hnx : r.nx = 0 := hend (.inl e0)
  have hcn : ¬ r.c = 0 := r_err (by rw [← hr] at e0; exact .inl e0) hr
  refine ⟨⟨f, c0, c1, false, 2, false, 1, w00, r⟩, ?_⟩
  have hX := hXTw ⟨f, c0, c1, false, 2, false, 1, w00, r⟩
  dsimp only [XKw, xkT, xwH, wdH]
  refine sx hX [] 4000 rfl (by (simp [-List.getD_eq_getElem?_getD, -List.length_eq_zero_iff, conjP, getH, HE.so, r1, r2, hl, w0, w1, s0, s1, slV, ok, hr, e0])) ?_
  refine sx hX [.K, .T] 4000 rfl (by (simp [-List.getD_eq_getElem?_getD, -List.length_eq_zero_iff, conjP, getH, HE.so, r1, r2, hl, hw7])) ?_
  refine sx hX [.F] 4000 rfl (by (simp [-List.getD_eq_getElem?_getD, -List.length_eq_zero_iff, conjP, hnx])) ?_
  refine sx hX [.T] 4000 rfl (by (simp [-List.getD_eq_getElem?_getD, -List.length_eq_zero_iff, conjP, addOP, hcn])) ?_
  (refine J _ ⟨i + 1, ⟨W, st + 1, 1, r.wd, r.vl, false, stb, kdb, wdb, vlb, chb, true, n, c0, c1, none, c3, p0, q0, p1, q1, p2, q2, p3, q3, d0, d1, d2, d3⟩, now, bm, ds, mm, g0, g1, h2, h3⟩ ?iv rfl _ _ _ (sub_of [0, 1, 2, 3, 4, 5, 24, 7, 8, 9, 10, 11, 12, 13, 14, 15, 60, 61, 18, 19, 20, 21, 22, 23] rfl rfl rfl rfl ?tt ?hh ?ot ?ok); (case tt => simp only [ewi]; (exact clhX)); (case hh => (exact clhX)); (case ot => (exact clkX)); (case ok => (exact clkX)); (case iv => exact ⟨(BInv.nx (z' := ⟨W, st + 1, 1, r.wd, r.vl, false, stb, kdb, wdb, vlb, chb, true, n, c0, c1, none, c3, p0, q0, p1, q1, p2, q2, p3, q3, d0, d1, d2, d3⟩) b hLn hWn (b.o0) (b.o1) (trivial) (b.o3) (hi := by show 2 * i + 1 + 1 ≤ 10000; omega)).mono (by show 2 * i + 1 + 1 ≤ 2 * (i + 1) + 0; omega) (by show 2 * (i + 1) + 0 ≤ 10000; omega), by show i + 1 + 0 ≤ N; omega, by show i + 1 + 0 ≤ 200; omega, m, h.j, h.bf, h.dl, h.dv, by (show epW ((W).getD 7 0) ≤ ((i + 1 : Nat) : Int)); have := h.ep; dsimp only at this; omega, (fun s hs => by cases hs), h.q3⟩))
set_option maxHeartbeats 8000000 in
theorem xr2n3 (h : XInv R N 1 x) (hin : x.i < N) (hi : x.i < 200) {r : RR} {ep nx sn fl tm : Int} (hc : x.z.c2 = some ⟨ep, nx, sn, fl, tm, none⟩) (hr : rStep R ⟨ep, nx, sn, fl, tm, none⟩ x.z.W x.z.st = r) (e0 : r.k = 3) (J : ∀ p, XJJ p R N cap o x ρ w I) : ∃ p, XKw p 2 10 R N cap o x ρ w I := by
  have F := h.facts hin hi
  obtain ⟨i, ⟨W, st, kd, wd, vl, ch, stb, kdb, wdb, vlb, chb, f, n, c0, c1, c2, c3, p0, q0, p1, q1, p2, q2, p3, q3, d0, d1, d2, d3⟩, now, bm, ds, mm, g0, g1, h2, h3⟩ := x
  dsimp only at hin hi hc hr F
  subst hc
  have b := h.b
  have m := h.m
  obtain ⟨hin1, hi1, ewi, r1, r2, hl, hl16, w0, w1, s0, s1, n0, n1⟩ := F
  have ok : ROk R ⟨ep, nx, sn, fl, tm, none⟩ := b.o2
  have aft := rAft (st := st) ok w0 w1
  have hwd := rWd (R := R) (s := ⟨ep, nx, sn, fl, tm, none⟩) (W := W) (st := st)
  have hend := rEnd (st := st) (W := W) ok
  rw [hr] at aft hwd hend
  have hLn := hl
  have hLr := hl.symm
  have hWn := b.hw
  have hst : st < st + 1 := by omega
  have hw7 : ¬ r.wd = 7 := hwd.2 e0
  have okn := aft.go (.inr (.inl e0))
  obtain ⟨e4, e2, e1, _, _, e3, _⟩ := aft.wd e0
  rw [e3] at okn
  refine ⟨⟨f, c0, c1, false, 2, false, 3, w00, r⟩, ?_⟩
  have hX := hXTw ⟨f, c0, c1, false, 2, false, 3, w00, r⟩
  dsimp only [XKw, xkT, xwH, wdH]
  refine sx hX [] 4000 rfl (by (simp [-List.getD_eq_getElem?_getD, -List.length_eq_zero_iff, conjP, getH, HE.so, r1, r2, hl, w0, w1, s0, s1, slV, ok, hr, e0])) ?_
  refine sx hX [.K, .F] 4000 rfl (by (simp [-List.getD_eq_getElem?_getD, -List.length_eq_zero_iff, conjP, getH, HE.so, r1, r2, hl, hw7])) ?_
  (refine J _ ⟨i + 1, ⟨W, st + 1, 1, r.wd, r.vl, false, stb, kdb, wdb, vlb, chb, true, n, c0, c1, some ⟨ep, r.nx, r.sn, r.fl, r.tm, (some [r.vl])⟩, c3, p0, q0, p1, q1, p2, q2, p3, q3, d0, d1, d2, d3⟩, now, bm, ds, mm, g0, g1, h2, h3⟩ ?iv rfl _ _ _ (sub_of [0, 1, 2, 3, 4, 5, 25, 7, 8, 9, 10, 11, 12, 13, 14, 15, 16, 24, 18, 19, 20, 21, 22, 23] rfl rfl rfl rfl ?tt ?hh ?ot ?ok); (case tt => simp only [ewi]; (exact clhX)); (case hh => (exact clhX)); (case ot => (exact clkX)); (case ok => (exact clkX)); (case iv => exact ⟨(BInv.nx (z' := ⟨W, st + 1, 1, r.wd, r.vl, false, stb, kdb, wdb, vlb, chb, true, n, c0, c1, some ⟨ep, r.nx, r.sn, r.fl, r.tm, (some [r.vl])⟩, c3, p0, q0, p1, q1, p2, q2, p3, q3, d0, d1, d2, d3⟩) b hLn hWn (b.o0) (b.o1) (okn) (b.o3) (hi := by show 2 * i + 1 + 1 ≤ 10000; omega)).mono (by show 2 * i + 1 + 1 ≤ 2 * (i + 1) + 0; omega) (by show 2 * (i + 1) + 0 ≤ 10000; omega), by show i + 1 + 0 ≤ N; omega, by show i + 1 + 0 ≤ 200; omega, m, h.j, h.bf, h.dl, h.dv, by (show epW ((W).getD 7 0) ≤ ((i + 1 : Nat) : Int)); have := h.ep; dsimp only at this; omega, (fun s hs => by cases hs; exact (h.q2 _ rfl).word ok w0 w1 hr e0), h.q3⟩))
set_option maxHeartbeats 8000000 in
theorem xr2s0 (h : XInv R N 1 x) (hin : x.i < N) (hi : x.i < 200) {r : RR} {ep nx sn fl tm : Int} {l : List Int} (hc : x.z.c2 = some ⟨ep, nx, sn, fl, tm, (some l)⟩) (hr : rStep R ⟨ep, nx, sn, fl, tm, (some l)⟩ x.z.W x.z.st = r) (e0 : r.k = 0) (J : ∀ p, XJJ p R N cap o x ρ w I) : ∃ p, XKw p 2 10 R N cap o x ρ w I := by
  have F := h.facts hin hi
  obtain ⟨i, ⟨W, st, kd, wd, vl, ch, stb, kdb, wdb, vlb, chb, f, n, c0, c1, c2, c3, p0, q0, p1, q1, p2, q2, p3, q3, d0, d1, d2, d3⟩, now, bm, ds, mm, g0, g1, h2, h3⟩ := x
  dsimp only at hin hi hc hr F
  subst hc
  have b := h.b
  have m := h.m
  obtain ⟨hin1, hi1, ewi, r1, r2, hl, hl16, w0, w1, s0, s1, n0, n1⟩ := F
  have ok : ROk R ⟨ep, nx, sn, fl, tm, (some l)⟩ := b.o2
  have aft := rAft (st := st) ok w0 w1
  have hwd := rWd (R := R) (s := ⟨ep, nx, sn, fl, tm, (some l)⟩) (W := W) (st := st)
  have hend := rEnd (st := st) (W := W) ok
  rw [hr] at aft hwd hend
  have hLn := hl
  have hLr := hl.symm
  have hWn := b.hw
  have hst : st < st + 1 := by omega
  have hw7 : r.wd = 7 := hwd.1 (by omega)
  have okn := aft.go (.inl e0)
  obtain ⟨e4, e3, e2, e1, _⟩ := aft.lk e0
  rw [e3] at okn
  refine ⟨⟨f, c0, c1, false, 2, false, 0, w00, r⟩, ?_⟩
  have hX := hXTw ⟨f, c0, c1, false, 2, false, 0, w00, r⟩
  dsimp only [XKw, xkT, xwH, wdH]
  refine sx hX [] 4000 rfl (by (simp [-List.getD_eq_getElem?_getD, -List.length_eq_zero_iff, conjP, getH, HE.so, r1, r2, hl, w0, w1, s0, s1, slV, ok, hr, e0])) ?_
  refine sx hX [.K, .T] 4000 rfl (by (simp [-List.getD_eq_getElem?_getD, -List.length_eq_zero_iff, conjP, getH, HE.so, r1, r2, hl, hw7])) ?_
  refine sx hX [.T] 4000 rfl (by (simp [-List.getD_eq_getElem?_getD, -List.length_eq_zero_iff, conjP, hst])) ?_
  (refine J _ ⟨i + 1, ⟨W, st + 1, 1, r.wd, r.vl, false, stb, kdb, wdb, vlb, chb, true, n, c0, c1, some ⟨ep, r.nx, r.sn, r.fl, r.tm, none⟩, c3, p0, q0, p1, q1, p2, q2, p3, q3, d0, d1, d2, d3⟩, now, bm, ds, mm, g0, g1, now, h3⟩ ?iv rfl _ _ _ (sub_of [0, 1, 2, 3, 4, 5, 24, 7, 8, 9, 10, 11, 12, 13, 14, 15, 16, 61, 18, 19, 20, 21, 22, 23] rfl rfl rfl rfl ?tt ?hh ?ot ?ok); (case tt => simp only [ewi]; (exact clhX)); (case hh => (exact clhX)); (case ot => (exact clkX)); (case ok => (exact clkX)); (case iv => exact ⟨(BInv.nx (z' := ⟨W, st + 1, 1, r.wd, r.vl, false, stb, kdb, wdb, vlb, chb, true, n, c0, c1, some ⟨ep, r.nx, r.sn, r.fl, r.tm, none⟩, c3, p0, q0, p1, q1, p2, q2, p3, q3, d0, d1, d2, d3⟩) b hLn hWn (b.o0) (b.o1) (okn) (b.o3) (hi := by show 2 * i + 1 + 1 ≤ 10000; omega)).mono (by show 2 * i + 1 + 1 ≤ 2 * (i + 1) + 0; omega) (by show 2 * (i + 1) + 0 ≤ 10000; omega), by show i + 1 + 0 ≤ N; omega, by show i + 1 + 0 ≤ 200; omega, m, h.j, h.bf, h.dl, h.dv, by (show epW ((W).getD 7 0) ≤ ((i + 1 : Nat) : Int)); have := h.ep; dsimp only at this; omega, (fun s hs => by cases hs; exact RQ.look h.j ok w0 w1 hr e0 rfl), h.q3⟩))
set_option maxHeartbeats 8000000 in
theorem xr2s1 (h : XInv R N 1 x) (hin : x.i < N) (hi : x.i < 200) {r : RR} {ep nx sn fl tm : Int} {l : List Int} (hc : x.z.c2 = some ⟨ep, nx, sn, fl, tm, (some l)⟩) (hr : rStep R ⟨ep, nx, sn, fl, tm, (some l)⟩ x.z.W x.z.st = r) (e0 : r.k = 1) (J : ∀ p, XJJ p R N cap o x ρ w I) : ∃ p, XKw p 2 10 R N cap o x ρ w I := by
  have F := h.facts hin hi
  obtain ⟨i, ⟨W, st, kd, wd, vl, ch, stb, kdb, wdb, vlb, chb, f, n, c0, c1, c2, c3, p0, q0, p1, q1, p2, q2, p3, q3, d0, d1, d2, d3⟩, now, bm, ds, mm, g0, g1, h2, h3⟩ := x
  dsimp only at hin hi hc hr F
  subst hc
  have b := h.b
  have m := h.m
  obtain ⟨hin1, hi1, ewi, r1, r2, hl, hl16, w0, w1, s0, s1, n0, n1⟩ := F
  have ok : ROk R ⟨ep, nx, sn, fl, tm, (some l)⟩ := b.o2
  have aft := rAft (st := st) ok w0 w1
  have hwd := rWd (R := R) (s := ⟨ep, nx, sn, fl, tm, (some l)⟩) (W := W) (st := st)
  have hend := rEnd (st := st) (W := W) ok
  rw [hr] at aft hwd hend
  have hLn := hl
  have hLr := hl.symm
  have hWn := b.hw
  have hst : st < st + 1 := by omega
  have hw7 : r.wd = 7 := hwd.1 (by omega)
  have hnx : r.nx = 0 := hend (.inl e0)
  have hcn : ¬ r.c = 0 := r_err (by rw [← hr] at e0; exact .inl e0) hr
  refine ⟨⟨f, c0, c1, false, 2, false, 1, w00, r⟩, ?_⟩
  have hX := hXTw ⟨f, c0, c1, false, 2, false, 1, w00, r⟩
  dsimp only [XKw, xkT, xwH, wdH]
  refine sx hX [] 4000 rfl (by (simp [-List.getD_eq_getElem?_getD, -List.length_eq_zero_iff, conjP, getH, HE.so, r1, r2, hl, w0, w1, s0, s1, slV, ok, hr, e0])) ?_
  refine sx hX [.K, .T] 4000 rfl (by (simp [-List.getD_eq_getElem?_getD, -List.length_eq_zero_iff, conjP, getH, HE.so, r1, r2, hl, hw7])) ?_
  refine sx hX [.F] 4000 rfl (by (simp [-List.getD_eq_getElem?_getD, -List.length_eq_zero_iff, conjP, hnx])) ?_
  refine sx hX [.T] 4000 rfl (by (simp [-List.getD_eq_getElem?_getD, -List.length_eq_zero_iff, conjP, addOP, hcn])) ?_
  (refine J _ ⟨i + 1, ⟨W, st + 1, 1, r.wd, r.vl, false, stb, kdb, wdb, vlb, chb, true, n, c0, c1, none, c3, p0, q0, p1, q1, p2, q2, p3, q3, d0, d1, d2, d3⟩, now, bm, ds, mm, g0, g1, h2, h3⟩ ?iv rfl _ _ _ (sub_of [0, 1, 2, 3, 4, 5, 24, 7, 8, 9, 10, 11, 12, 13, 14, 15, 60, 61, 18, 19, 20, 21, 22, 23] rfl rfl rfl rfl ?tt ?hh ?ot ?ok); (case tt => simp only [ewi]; (exact clhX)); (case hh => (exact clhX)); (case ot => (exact clkX)); (case ok => (exact clkX)); (case iv => exact ⟨(BInv.nx (z' := ⟨W, st + 1, 1, r.wd, r.vl, false, stb, kdb, wdb, vlb, chb, true, n, c0, c1, none, c3, p0, q0, p1, q1, p2, q2, p3, q3, d0, d1, d2, d3⟩) b hLn hWn (b.o0) (b.o1) (trivial) (b.o3) (hi := by show 2 * i + 1 + 1 ≤ 10000; omega)).mono (by show 2 * i + 1 + 1 ≤ 2 * (i + 1) + 0; omega) (by show 2 * (i + 1) + 0 ≤ 10000; omega), by show i + 1 + 0 ≤ N; omega, by show i + 1 + 0 ≤ 200; omega, m, h.j, h.bf, h.dl, h.dv, by (show epW ((W).getD 7 0) ≤ ((i + 1 : Nat) : Int)); have := h.ep; dsimp only at this; omega, (fun s hs => by cases hs), h.q3⟩))
set_option maxHeartbeats 8000000 in
theorem xr2s3 (h : XInv R N 1 x) (hin : x.i < N) (hi : x.i < 200) {r : RR} {ep nx sn fl tm : Int} {l : List Int} (hc : x.z.c2 = some ⟨ep, nx, sn, fl, tm, (some l)⟩) (hr : rStep R ⟨ep, nx, sn, fl, tm, (some l)⟩ x.z.W x.z.st = r) (e0 : r.k = 3) (J : ∀ p, XJJ p R N cap o x ρ w I) : ∃ p, XKw p 2 10 R N cap o x ρ w I := by
  have F := h.facts hin hi
  obtain ⟨i, ⟨W, st, kd, wd, vl, ch, stb, kdb, wdb, vlb, chb, f, n, c0, c1, c2, c3, p0, q0, p1, q1, p2, q2, p3, q3, d0, d1, d2, d3⟩, now, bm, ds, mm, g0, g1, h2, h3⟩ := x
  dsimp only at hin hi hc hr F
  subst hc
  have b := h.b
  have m := h.m
  obtain ⟨hin1, hi1, ewi, r1, r2, hl, hl16, w0, w1, s0, s1, n0, n1⟩ := F
  have ok : ROk R ⟨ep, nx, sn, fl, tm, (some l)⟩ := b.o2
  have aft := rAft (st := st) ok w0 w1
  have hwd := rWd (R := R) (s := ⟨ep, nx, sn, fl, tm, (some l)⟩) (W := W) (st := st)
  have hend := rEnd (st := st) (W := W) ok
  rw [hr] at aft hwd hend
  have hLn := hl
  have hLr := hl.symm
  have hWn := b.hw
  have hst : st < st + 1 := by omega
  have hw7 : ¬ r.wd = 7 := hwd.2 e0
  have hwl : (l ++ [r.vl]).length = l.length + 1 := by simp
  have hwr := hwl.symm
  have okn := aft.go (.inr (.inl e0))
  obtain ⟨e4, e2, e1, _, _, e3, _⟩ := aft.wd e0
  rw [e3] at okn
  refine ⟨⟨f, c0, c1, false, 2, false, 3, w00, r⟩, ?_⟩
  have hX := hXTw ⟨f, c0, c1, false, 2, false, 3, w00, r⟩
  dsimp only [XKw, xkT, xwH, wdH]
  refine sx hX [] 4000 rfl (by (simp [-List.getD_eq_getElem?_getD, -List.length_eq_zero_iff, conjP, getH, HE.so, r1, r2, hl, w0, w1, s0, s1, slV, ok, hr, e0])) ?_
  refine sx hX [.K, .F] 4000 rfl (by (simp [-List.getD_eq_getElem?_getD, -List.length_eq_zero_iff, conjP, getH, HE.so, r1, r2, hl, hw7])) ?_
  (refine J _ ⟨i + 1, ⟨W, st + 1, 1, r.wd, r.vl, false, stb, kdb, wdb, vlb, chb, true, n, c0, c1, some ⟨ep, r.nx, r.sn, r.fl, r.tm, (some (l ++ [r.vl]))⟩, c3, p0, q0, p1, q1, p2, q2, p3, q3, d0, d1, d2, d3⟩, now, bm, ds, mm, g0, g1, h2, h3⟩ ?iv rfl _ _ _ (sub_of [0, 1, 2, 3, 4, 5, 25, 7, 8, 9, 10, 11, 12, 13, 14, 15, 16, 24, 18, 19, 20, 21, 22, 23] rfl rfl rfl rfl ?tt ?hh ?ot ?ok); (case tt => simp only [ewi]; (exact clhX)); (case hh => (exact clhX)); (case ot => (exact clkX)); (case ok => (exact clkX)); (case iv => exact ⟨(BInv.nx (z' := ⟨W, st + 1, 1, r.wd, r.vl, false, stb, kdb, wdb, vlb, chb, true, n, c0, c1, some ⟨ep, r.nx, r.sn, r.fl, r.tm, (some (l ++ [r.vl]))⟩, c3, p0, q0, p1, q1, p2, q2, p3, q3, d0, d1, d2, d3⟩) b hLn hWn (b.o0) (b.o1) (okn) (b.o3) (hi := by show 2 * i + 1 + 1 ≤ 10000; omega)).mono (by show 2 * i + 1 + 1 ≤ 2 * (i + 1) + 0; omega) (by show 2 * (i + 1) + 0 ≤ 10000; omega), by show i + 1 + 0 ≤ N; omega, by show i + 1 + 0 ≤ 200; omega, m, h.j, h.bf, h.dl, h.dv, by (show epW ((W).getD 7 0) ≤ ((i + 1 : Nat) : Int)); have := h.ep; dsimp only at this; omega, (fun s hs => by cases hs; exact (h.q2 _ rfl).word ok w0 w1 hr e0), h.q3⟩))
set_option maxHeartbeats 8000000 in
theorem xr2s4 (h : XInv R N 1 x) (hin : x.i < N) (hi : x.i < 200) {r : RR} {ep nx sn fl tm : Int} {l : List Int} (hc : x.z.c2 = some ⟨ep, nx, sn, fl, tm, (some l)⟩) (hr : rStep R ⟨ep, nx, sn, fl, tm, (some l)⟩ x.z.W x.z.st = r) (e0 : r.k = 4) (J : ∀ p, XJJ p R N cap o x ρ w I) : ∃ p, XKw p 2 10 R N cap o x ρ w I := by
  have F := h.facts hin hi
  obtain ⟨i, ⟨W, st, kd, wd, vl, ch, stb, kdb, wdb, vlb, chb, f, n, c0, c1, c2, c3, p0, q0, p1, q1, p2, q2, p3, q3, d0, d1, d2, d3⟩, now, bm, ds, mm, g0, g1, h2, h3⟩ := x
  dsimp only at hin hi hc hr F
  subst hc
  have b := h.b
  have m := h.m
  obtain ⟨hin1, hi1, ewi, r1, r2, hl, hl16, w0, w1, s0, s1, n0, n1⟩ := F
  have ok : ROk R ⟨ep, nx, sn, fl, tm, (some l)⟩ := b.o2
  have aft := rAft (st := st) ok w0 w1
  have hwd := rWd (R := R) (s := ⟨ep, nx, sn, fl, tm, (some l)⟩) (W := W) (st := st)
  have hend := rEnd (st := st) (W := W) ok
  rw [hr] at aft hwd hend
  have hLn := hl
  have hLr := hl.symm
  have hWn := b.hw
  have hst : st < st + 1 := by omega
  have hw7 : r.wd = 7 := hwd.1 (by omega)
  have okn := aft.go (.inr (.inr e0))
  obtain ⟨e4, e3, e1, e2⟩ := aft.fa (.inl e0)
  rw [e2] at okn
  refine ⟨⟨f, c0, c1, false, 2, false, 4, w00, r⟩, ?_⟩
  have hX := hXTw ⟨f, c0, c1, false, 2, false, 4, w00, r⟩
  dsimp only [XKw, xkT, xwH, wdH]
  refine sx hX [] 4000 rfl (by (simp [-List.getD_eq_getElem?_getD, -List.length_eq_zero_iff, conjP, getH, HE.so, r1, r2, hl, w0, w1, s0, s1, slV, ok, hr, e0])) ?_
  refine sx hX [.K, .T] 4000 rfl (by (simp [-List.getD_eq_getElem?_getD, -List.length_eq_zero_iff, conjP, getH, HE.so, r1, r2, hl, hw7])) ?_
  refine sx hX [.T] 4000 rfl (by (simp [-List.getD_eq_getElem?_getD, -List.length_eq_zero_iff, conjP, hst])) ?_
  (refine J _ ⟨i + 1, ⟨W, st + 1, 1, r.wd, r.vl, false, stb, kdb, wdb, vlb, chb, true, n, c0, c1, some ⟨ep, r.nx, r.sn, r.fl, r.tm, (some l)⟩, c3, p0, q0, p1, q1, p2, q2, p3, q3, d0, d1, d2, d3⟩, now, bm, ds, mm, g0, g1, now, h3⟩ ?iv rfl _ _ _ (sub_of [0, 1, 2, 3, 4, 5, 24, 7, 8, 9, 10, 11, 12, 13, 14, 15, 16, 17, 18, 19, 20, 21, 22, 23] rfl rfl rfl rfl ?tt ?hh ?ot ?ok); (case tt => simp only [ewi]; (exact clhX)); (case hh => (exact clhX)); (case ot => (exact clkX)); (case ok => (exact clkX)); (case iv => exact ⟨(BInv.nx (z' := ⟨W, st + 1, 1, r.wd, r.vl, false, stb, kdb, wdb, vlb, chb, true, n, c0, c1, some ⟨ep, r.nx, r.sn, r.fl, r.tm, (some l)⟩, c3, p0, q0, p1, q1, p2, q2, p3, q3, d0, d1, d2, d3⟩) b hLn hWn (b.o0) (b.o1) (okn) (b.o3) (hi := by show 2 * i + 1 + 1 ≤ 10000; omega)).mono (by show 2 * i + 1 + 1 ≤ 2 * (i + 1) + 0; omega) (by show 2 * (i + 1) + 0 ≤ 10000; omega), by show i + 1 + 0 ≤ N; omega, by show i + 1 + 0 ≤ 200; omega, m, h.j, h.bf, h.dl, h.dv, by (show epW ((W).getD 7 0) ≤ ((i + 1 : Nat) : Int)); have := h.ep; dsimp only at this; omega, (fun s hs => by cases hs; exact RQ.new (aft.f4 e0)), h.q3⟩))
set_option maxHeartbeats 8000000 in
theorem xr2s5 (h : XInv R N 1 x) (hin : x.i < N) (hi : x.i < 200) {r : RR} {ep nx sn fl tm : Int} {l : List Int} (hc : x.z.c2 = some ⟨ep, nx, sn, fl, tm, (some l)⟩) (hr : rStep R ⟨ep, nx, sn, fl, tm, (some l)⟩ x.z.W x.z.st = r) (e0 : r.k = 5) (J : ∀ p, XJJ p R N cap o x ρ w I) : ∃ p, XKw p 2 10 R N cap o x ρ w I := by
  have F := h.facts hin hi
  obtain ⟨i, ⟨W, st, kd, wd, vl, ch, stb, kdb, wdb, vlb, chb, f, n, c0, c1, c2, c3, p0, q0, p1, q1, p2, q2, p3, q3, d0, d1, d2, d3⟩, now, bm, ds, mm, g0, g1, h2, h3⟩ := x
  dsimp only at hin hi hc hr F
  subst hc
  have b := h.b
  have m := h.m
  obtain ⟨hin1, hi1, ewi, r1, r2, hl, hl16, w0, w1, s0, s1, n0, n1⟩ := F
  have ok : ROk R ⟨ep, nx, sn, fl, tm, (some l)⟩ := b.o2
  have aft := rAft (st := st) ok w0 w1
  have hwd := rWd (R := R) (s := ⟨ep, nx, sn, fl, tm, (some l)⟩) (W := W) (st := st)
  have hend := rEnd (st := st) (W := W) ok
  rw [hr] at aft hwd hend
  have hLn := hl
  have hLr := hl.symm
  have hWn := b.hw
  have hst : st < st + 1 := by omega
  have hw7 : r.wd = 7 := hwd.1 (by omega)
  have hnx : r.nx = 0 := hend (.inr (.inr e0))
  have hcn : ¬ r.c = 0 := r_err (by rw [← hr] at e0; exact .inr e0) hr
  refine ⟨⟨f, c0, c1, false, 2, false, 5, w00, r⟩, ?_⟩
  have hX := hXTw ⟨f, c0, c1, false, 2, false, 5, w00, r⟩
  dsimp only [XKw, xkT, xwH, wdH]
  refine sx hX [] 4000 rfl (by (simp [-List.getD_eq_getElem?_getD, -List.length_eq_zero_iff, conjP, getH, HE.so, r1, r2, hl, w0, w1, s0, s1, slV, ok, hr, e0])) ?_
  refine sx hX [.K, .T] 4000 rfl (by (simp [-List.getD_eq_getElem?_getD, -List.length_eq_zero_iff, conjP, getH, HE.so, r1, r2, hl, hw7])) ?_
  refine sx hX [.F] 4000 rfl (by (simp [-List.getD_eq_getElem?_getD, -List.length_eq_zero_iff, conjP, hnx])) ?_
  refine sx hX [.T] 4000 rfl (by (simp [-List.getD_eq_getElem?_getD, -List.length_eq_zero_iff, conjP, addOP, hcn])) ?_
  (refine J _ ⟨i + 1, ⟨W, st + 1, 1, r.wd, r.vl, false, stb, kdb, wdb, vlb, chb, true, n, c0, c1, none, c3, p0, q0, p1, q1, p2, q2, p3, q3, d0, d1, d2, d3⟩, now, bm, ds, mm, g0, g1, h2, h3⟩ ?iv rfl _ _ _ (sub_of [0, 1, 2, 3, 4, 5, 24, 7, 8, 9, 10, 11, 12, 13, 14, 15, 60, 61, 18, 19, 20, 21, 22, 23] rfl rfl rfl rfl ?tt ?hh ?ot ?ok); (case tt => simp only [ewi]; (exact clhX)); (case hh => (exact clhX)); (case ot => (exact clkX)); (case ok => (exact clkX)); (case iv => exact ⟨(BInv.nx (z' := ⟨W, st + 1, 1, r.wd, r.vl, false, stb, kdb, wdb, vlb, chb, true, n, c0, c1, none, c3, p0, q0, p1, q1, p2, q2, p3, q3, d0, d1, d2, d3⟩) b hLn hWn (b.o0) (b.o1) (trivial) (b.o3) (hi := by show 2 * i + 1 + 1 ≤ 10000; omega)).mono (by show 2 * i + 1 + 1 ≤ 2 * (i + 1) + 0; omega) (by show 2 * (i + 1) + 0 ≤ 10000; omega), by show i + 1 + 0 ≤ N; omega, by show i + 1 + 0 ≤ 200; omega, m, h.j, h.bf, h.dl, h.dv, by (show epW ((W).getD 7 0) ≤ ((i + 1 : Nat) : Int)); have := h.ep; dsimp only at this; omega, (fun s hs => by cases hs), h.q3⟩))
set_option maxHeartbeats 8000000 in
theorem win2 {p : TP} {l : List Int} {wh : Int} (x1 : XS) (hb : x1.b = true) (hin : x1.i < N) (hi : x1.i < 200) (l4 : l.length = 4) (e1 : 1 ≤ wh) (e2 : wh < (0 :: x1.mm).length) (ml : x1.mm.length ≤ 1000000) (dl : x1.ds.length = x1.mm.length) (dv : ∀ k : Nat, k < x1.ds.length → x1.ds.getD k 0 = (k : Int) + 1) (e3 : l.getD 0 0 = wh) (e4 : 1 ≤ (0 :: x1.mm).getD wh.toNat 0 ∧ (0 :: x1.mm).getD wh.toNat 0 ≤ 4) (e5 : ∀ j : Nat, (j : Int) < (0 :: x1.mm).getD wh.toNat 0 → l.getD j 0 = wh)
    (J : ∀ cs T H, Sub (FEnv Tryz.prog (XTw p).TE (hXTw p).te Tryz.f5 Tryz.f5.ntmps [.obj (.rows N 2 (actR o)), pinE RTV] (Is .tt [.obj (.rows N 2 (actR o)), pinE RTV]) ρ w) T H (xwT N cap ⟨x1.i + 1, x1.z, x1.now, x1.b, x1.ds, x1.mm, x1.g0, x1.g1, x1.h2, x1.h3⟩) (xwH N o R ⟨x1.i + 1, x1.z, x1.now, x1.b, x1.ds, x1.mm, x1.g0, x1.g1, x1.h2, x1.h3⟩) →
      SS (hXTw p) (At ρ w) (Is .tt [.obj (.rows N 2 (actR o)), pinE RTV]) ⟨cs, [], Tryz.f5, Tryz.f5.ntmps, [.obj (.rows N 2 (actR o)), pinE RTV], downLp (contF Tryz.f5 11 [I]), T, H⟩) :
    SS (hXTw p) (At ρ w) (Is .tt [.obj (.rows N 2 (actR o)), pinE RTV]) ⟨[], [], Tryz.f5, Tryz.f5.ntmps, [.obj (.rows N 2 (actR o)), pinE RTV], contF Tryz.f5 40 [I], wnT2 N cap x1, wnH2 N o R x1 l⟩ := by
  obtain ⟨i, ⟨W, st, kd, wd, vl, ch, stb, kdb, wdb, vlb, chb, f, n, c0, c1, c2, c3, p0, q0, p1, q1, p2, q2, p3, q3, d0, d1, d2, d3⟩, now, bm, ds, mm, g0, g1, h2, h3⟩ := x1
  dsimp only at hb hin hi e2 ml dl dv e4 e5 J
  subst hb
  have hX := hXTw p
  have hco : ∀ k, cellOff k 1 0 = k := fun k => by simp [cellOff]
  have ewi : IntKind.i64.wrap ((i : Int) + 1) = ((i + 1 : Nat) : Int) := by rw [wi64 (by omega) (by omega)]; omega
  obtain ⟨v, hv⟩ : ∃ v : Nat, wh = (v : Int) + 1 := ⟨(wh - 1).toNat, by omega⟩
  have ht : wh.toNat = v + 1 := by omega
  rw [ht, List.getD_cons_succ] at e4 e5
  simp only [List.length_cons] at e2
  have hvm : v < mm.length := by omega
  have hvd : v < ds.length := by omega
  have hdv := dv v hvd
  have e6 : ds.getD v 0 = wh := by rw [hdv, hv]
  have wsub : IntKind.u64.wrap (wh - 1) = (v : Int) := by rw [wu8 (by omega) (by omega)]; omega
  have l4r := l4.symm
  refine sxb hX [.l] [] 4000 rfl trivial ?_
  refine ss_loop hX (fun j => (20, .int .i64 ((j : Nat) : Int)) :: wnT2 N cap ⟨i, ⟨W, st, kd, wd, vl, ch, stb, kdb, wdb, vlb, chb, f, n, c0, c1, c2, c3, p0, q0, p1, q1, p2, q2, p3, q3, d0, d1, d2, d3⟩, now, true, ds, mm, g0, g1, h2, h3⟩) (fun _ => wnH2 N o R ⟨i, ⟨W, st, kd, wd, vl, ch, stb, kdb, wdb, vlb, chb, f, n, c0, c1, c2, c3, p0, q0, p1, q1, p2, q2, p3, q3, d0, d1, d2, d3⟩, now, true, ds, mm, g0, g1, h2, h3⟩ l) (fun j => (j : Int) ≤ mm.getD v 0) (fun j => 4 - j) 0 (by show (0 : Int) ≤ _; omega) ?_
  intro j hj I2 back
  have j4 : j ≤ 4 := by omega
  have ewj : IntKind.i64.wrap ((j : Int) + 1) = ((j + 1 : Nat) : Int) := by rw [wi64 (by omega) (by omega)]; omega
  dsimp only [wnT2, xwT, wnH2, wdH, idV, idE, cond_true, List.cons_append, List.nil_append]
  by_cases hlt : (j : Int) < mm.getD v 0
  · have hlv : l.getD j 0 = wh := e5 j hlt
    have hj4 : j < 4 := by omega
    refine sx hX [] 4000 rfl (by (simp [-List.getD_eq_getElem?_getD, -List.length_eq_zero_iff, conjP, hco, l4, hvm, e3, wsub, Int.toNat_natCast])) ?_
    refine sx hX [.T] 4000 rfl (by (simp [-List.getD_eq_getElem?_getD, -List.length_eq_zero_iff, conjP, hco, hlt, l4, hj4, hvd, e3, wsub, Int.toNat_natCast] <;> (first | omega | ((repeat' (refine And.intro ?_ ?_)) <;> (first | omega | exact decide_eq_false (by omega) | exact decide_eq_true (by omega)))))) ?_
    refine sx hX [.F] 4000 rfl (by (simp [-List.getD_eq_getElem?_getD, -List.length_eq_zero_iff, conjP, addOP, hco, hlv, e3, e6, wsub, Int.toNat_natCast])) ?_
    (refine back (j + 1) (by omega) (by omega) _ _ _ (sub_of [0, 1, 2, 3, 4, 5, 6, 7, 8, 9, 10, 11, 12, 13, 14, 15, 16, 17, 18, 19, 20, 21, 22, 23, 24] rfl rfl rfl rfl ?tt ?hh ?ot ?ok); (case tt => simp only [ewj]; (exact clhX)); (case hh => (exact clhX)); (case ot => (exact clkX)); (case ok => (exact clkX)))
  · refine sx hX [] 4000 rfl (by (simp [-List.getD_eq_getElem?_getD, -List.length_eq_zero_iff, conjP, hco, l4, hvm, e3, wsub, Int.toNat_natCast])) ?_
    refine sx hX [.F] 4000 rfl (by (simp [-List.getD_eq_getElem?_getD, -List.length_eq_zero_iff, conjP, addOP, hco, hlt, e3, wsub, Int.toNat_natCast])) ?_
    (refine J _ _ _ (sub_of [0, 1, 2, 3, 4, 5, 6, 7, 8, 9, 10, 11, 12, 13, 14, 15, 16, 17, 18, 19, 20, 21, 22, 23] rfl rfl rfl rfl ?tt ?hh ?ot ?ok); (case tt => simp only [ewi]; (exact clhX)); (case hh => (exact clhX)); (case ot => (exact clkX)); (case ok => (exact clkX)))
set_option maxHeartbeats 8000000 in
theorem xr2s2 (h : XInv R N 1 x) (hin : x.i < N) (hi : x.i < 200) {r : RR} {ep nx sn fl tm : Int} {l : List Int} (hc : x.z.c2 = some ⟨ep, nx, sn, fl, tm, some l⟩) (hr : rStep R ⟨ep, nx, sn, fl, tm, some l⟩ x.z.W x.z.st = r) (e0 : r.k = 2) (J : ∀ p, XJJ p R N cap o x ρ w I) : ∃ p, XKw p 2 10 R N cap o x ρ w I := by
  have F := h.facts hin hi
  obtain ⟨i, ⟨W, st, kd, wd, vl, ch, stb, kdb, wdb, vlb, chb, f, n, c0, c1, c2, c3, p0, q0, p1, q1, p2, q2, p3, q3, d0, d1, d2, d3⟩, now, bm, ds, mm, g0, g1, h2, h3⟩ := x
  dsimp only at hin hi hc hr F
  subst hc
  have b := h.b
  have m := h.m
  obtain ⟨hin1, hi1, ewi, r1, r2, hl, hl16, w0, w1, s0, s1, n0, n1⟩ := F
  have ok : ROk R ⟨ep, nx, sn, fl, tm, some l⟩ := b.o2
  have aft := rAft (st := st) ok w0 w1
  have hwd := rWd (R := R) (s := ⟨ep, nx, sn, fl, tm, some l⟩) (W := W) (st := st)
  have hend := rEnd (st := st) (W := W) ok
  rw [hr] at aft hwd hend
  have hLn := hl
  have hLr := hl.symm
  have hWn := b.hw
  have hst : st < st + 1 := by omega
  have hw7 : r.wd = 7 := hwd.1 (by omega)
  have hnx : r.nx = 0 := hend (.inr (.inl e0))
  have hq := h.q2 _ rfl
  obtain ⟨l4, t1, t2, t3, t4, t5⟩ := hq.told ok h.j.mb w0 w1 hr e0 (l := l) rfl
  dsimp only at t1 t2 t3 t4 t5
  have hco : ∀ k, cellOff k 1 0 = k := fun k => by simp [cellOff]
  have hnm := h.j.nm
  dsimp only [List.length_cons] at hnm t2
  have hml : mm.length ≤ 1000000 := by omega
  have hwn : ¬ n < h2 := by omega
  have ht1 : ¬ h2 < 1 := by omega
  have hbt : bm = true := by
    rcases bm with _ | _
    · have := (h.bf rfl).2
      dsimp only at this
      subst this
      simp at t2
      omega
    · rfl
  subst hbt
  have l4r := l4.symm
  have hz4 : 0 + l.length = 4 := by omega
  have hz4r := hz4.symm
  have htk : List.take (mulS 0 1) [] ++ List.take (mulS l.length 1) (List.drop (mulS 0 1) l) = l := by simp [mulS]
  have htkr := htk.symm
  have hms : ∀ a, mulS a 1 = a := fun a => by simp [mulS]
  have htk4 : List.take 4 l = l := List.take_of_length_le (by omega)
  refine ⟨⟨f, c0, c1, false, 2, false, 2, w00, r⟩, ?_⟩
  have hX := hXTw ⟨f, c0, c1, false, 2, false, 2, w00, r⟩
  dsimp only [XKw, xkT, xwH, wdH]
  have hiv : XInv R N 0 ⟨i + 1, ⟨W, st + 1, 1, r.wd, r.vl, false, stb, kdb, wdb, vlb, chb, true, n, c0, c1, none, c3, p0, q0, p1, q1, p2, q2, p3, q3, d0, d1, d2, d3⟩, now, true, ds, mm, g0, g1, h2, h3⟩ := by
    exact ⟨(BInv.nx (z' := ⟨W, st + 1, 1, r.wd, r.vl, false, stb, kdb, wdb, vlb, chb, true, n, c0, c1, none, c3, p0, q0, p1, q1, p2, q2, p3, q3, d0, d1, d2, d3⟩) b hLn hWn (b.o0) (b.o1) (trivial) (b.o3) (hi := by show 2 * i + 1 + 1 ≤ 10000; omega)).mono (by show 2 * i + 1 + 1 ≤ 2 * (i + 1) + 0; omega) (by show 2 * (i + 1) + 0 ≤ 10000; omega), by show i + 1 + 0 ≤ N; omega, by show i + 1 + 0 ≤ 200; omega, m, h.j, h.bf, h.dl, h.dv, by (show epW ((W).getD 7 0) ≤ ((i + 1 : Nat) : Int)); have := h.ep; dsimp only at this; omega, (fun s hs => by cases hs), h.q3⟩
  have hwin := win2 (N := N) (cap := cap) (o := o) (R := R) (ρ := ρ) (w := w) (I := I) (p := ⟨f, c0, c1, false, 2, false, 2, w00, r⟩) (l := l) (wh := h2) ⟨i, ⟨W, st + 1, 1, r.wd, r.vl, false, stb, kdb, wdb, vlb, chb, true, n, c0, c1, none, c3, p0, q0, p1, q1, p2, q2, p3, q3, d0, d1, d2, d3⟩, now, true, ds, mm, g0, g1, h2, h3⟩ rfl hin hi l4 t1 t2 hml h.dl h.dv t3 t4 t5 (J _ _ hiv rfl)
  refine sxb hX [.r 40] [] 4000 rfl (by (simp [-List.getD_eq_getElem?_getD, -List.length_eq_zero_iff, conjP, getH, HE.so, r1, r2, hl, w0, w1, s0, s1, slV, ok, hr, e0, l4])) ?_
  refine sxb hX [.r 40] [.K, .T] 4000 rfl (by (simp [-List.getD_eq_getElem?_getD, -List.length_eq_zero_iff, conjP, getH, HE.so, r1, r2, hl, hw7])) ?_
  refine sxb hX [.r 40] [.F] 4000 rfl (by (simp [-List.getD_eq_getElem?_getD, -List.length_eq_zero_iff, conjP, hnx, l4])) ?_
  refine sxb hX [.r 40] [.F] 4000 rfl (by (simp [-List.getD_eq_getElem?_getD, -List.length_eq_zero_iff, conjP, addOP])) ?_
  refine sxb hX [.r 40] [.K, .F, .K, .K, .F, .K, .K, .F] 4000 rfl (by (simp [-List.getD_eq_getElem?_getD, -List.length_eq_zero_iff, conjP, hms, htk4, l4, t3, hwn, ht1, hco])) ?_
  refine sxb hX [.r 40] [.F] 4000 rfl (by (simp [-List.getD_eq_getElem?_getD, -List.length_eq_zero_iff, conjP, addOP, List.getD_cons_zero, List.getD_cons_succ, hms, htk4, l4, t3, hco])) ?_
  (refine ss_sub hX (T' := wnT2 N cap ⟨i, ⟨W, st + 1, 1, r.wd, r.vl, false, stb, kdb, wdb, vlb, chb, true, n, c0, c1, none, c3, p0, q0, p1, q1, p2, q2, p3, q3, d0, d1, d2, d3⟩, now, true, ds, mm, g0, g1, h2, h3⟩) (H' := wnH2 N o R ⟨i, ⟨W, st + 1, 1, r.wd, r.vl, false, stb, kdb, wdb, vlb, chb, true, n, c0, c1, none, c3, p0, q0, p1, q1, p2, q2, p3, q3, d0, d1, d2, d3⟩, now, true, ds, mm, g0, g1, h2, h3⟩ l) [0, 1, 2, 3, 4, 5, 24, 7, 8, 9, 10, 11, 12, 13, 14, 15, 60, 61, 18, 19, 20, 21, 22, 23, 26] rfl rfl rfl rfl ?tt ?hh ?ot ?ok hwin; (case tt => (exact clhX)); (case hh => (exact clhX)); (case ot => (exact clkX)); (case ok => (exact clkX)))
theorem xt2 (h : XInv R N 1 x) (hin : x.i < N) (hi : x.i < 200) (hne : x.z.c2 ≠ none) (J : ∀ p, XJJ p R N cap o x ρ w I) : ∃ p, XKw p 2 10 R N cap o x ρ w I := by
  rcases hc : x.z.c2 with _ | ⟨ep, nx, sn, fl, tm, o'⟩
  · exact absurd hc hne
  · have ok : ROk R ⟨ep, nx, sn, fl, tm, o'⟩ := by have q := h.b.o2; rw [hc] at q; exact q
    rcases o' with _ | l
    · rcases (show nx = 1 ∨ nx = 3 ∨ nx = 4 from ok.nxc) with g | g | g
      · rcases rk1 (R := R) (W := x.z.W) (st := x.z.st) (s := ⟨ep, nx, sn, fl, tm, none⟩) g with e | e
        · exact xr2n0 h hin hi hc rfl e J
        · exact xr2n1 h hin hi hc rfl e J
      · exact xr2n3 h hin hi hc rfl (rk3 g) J
      · exact absurd (show (0 : Nat) = 4 from ok.w4 g) (by decide)
    · rcases (show nx = 1 ∨ nx = 3 ∨ nx = 4 from ok.nxc) with g | g | g
      · rcases rk1 (R := R) (W := x.z.W) (st := x.z.st) (s := ⟨ep, nx, sn, fl, tm, some l⟩) g with e | e
        · exact xr2s0 h hin hi hc rfl e J
        · exact xr2s1 h hin hi hc rfl e J
      · exact xr2s3 h hin hi hc rfl (rk3 g) J
      · rcases rk4 (R := R) (W := x.z.W) (st := x.z.st) (s := ⟨ep, nx, sn, fl, tm, some l⟩) g with e | e | e
        · exact xr2s2 h hin hi hc rfl e J
        · exact xr2s4 h hin hi hc rfl e J
        · exact xr2s5 h hin hi hc rfl e J
end
end Go.Proofs.YtmghcelohnlceaaGreatDoor
