/- SmallLast: client 2 has its turn, in loop 1. -/
import Derived.Test.YtmghcelohnlceaaGreatDoorLastBegin
namespace Go.Proofs.YtmghcelohnlceaaGreatDoor
open Go Go.Hx
set_option maxRecDepth 8000
section
variable {R : Int} {N cap : Nat} {o : Nat → Int × Int} {x : LS} {ρ : Nat → Nat × Nat} {w : World} {I : Act → World → Prop}

set_option maxHeartbeats 4000000 in
theorem t1r2n0 (h : LInv R N 1 x) (hin : x.i < N) (hi : x.i < 150) {r : RR} {ep nx sn fl tm : Int} (hc : x.z.c2 = some ⟨ep, nx, sn, fl, tm, none⟩) (hr : rStep R ⟨ep, nx, sn, fl, tm, none⟩ x.z.W x.z.st = r) (e0 : r.k = 0) (J : ∀ p, LJJ p R N cap o x ρ w I) : ∃ p, LK p 2 R N cap o x ρ w I := by
  have F := h.facts hin hi
  obtain ⟨i, ⟨W, st, kd, wd, vl, ch, stb, kdb, wdb, vlb, chb, f, n, c0, c1, c2, c3, p0, q0, p1, q1, p2, q2, p3, q3, d0, d1, d2, d3⟩, now, bm, mm⟩ := x
  dsimp only at hin hi hc hr F
  subst hc
  have b := h.b
  have m := h.m
  obtain ⟨hin1, hi1, ewi, r1, r2, hl, hl16, w0, w1, s0, s1, n0, n1⟩ := F
  have ok : ROk R ⟨ep, nx, sn, fl, tm, none⟩ := b.o2
  have aft := rAft (st := st) ok w0 w1
  have hdec := mr_dec (st := st) (W := W) ok w0 w1
  rw [hr] at aft hdec
  have hLn := hl
  have hLr := hl.symm
  have hWn := b.hw
  have hd1 := hdec (.inl e0)
  have okn := aft.go (.inl e0)
  obtain ⟨e4, e3, e2, e1, _⟩ := aft.lk e0
  rw [e3] at okn hd1
  refine ⟨⟨f, c0, c1, false, 2, false, 0, w00, r⟩, ?_⟩
  have hX := hXTl ⟨f, c0, c1, false, 2, false, 0, w00, r⟩
  dsimp only [LK, lkT, llH, wdH]
  refine sx hX [] 4000 rfl (by (simp [-List.getD_eq_getElem?_getD, -List.length_eq_zero_iff, conjP, getH, HE.so, r1, r2, hl, w0, w1, s0, s1, slV, ok, hr, e0])) ?_
  (refine J _ ⟨i + 1, ⟨W, st + 1, 1, r.wd, r.vl, false, stb, kdb, wdb, vlb, chb, true, n, c0, c1, some ⟨ep, r.nx, r.sn, r.fl, r.tm, none⟩, c3, p0, q0, p1, q1, p2, q2, p3, q3, d0, d1, d2, d3⟩, now, bm, mm⟩ ?iv rfl _ _ _ (sub_of [0, 1, 2, 3, 4, 5, 21, 7, 8, 9, 10, 11, 12, 13, 14, 15, 16, 61, 18, 19, 20] rfl rfl rfl rfl ?tt ?hh ?ot ?ok); (case tt => simp only [ewi]; (exact clhA)); (case hh => (exact clhA)); (case ot => (exact clkA)); (case ok => (exact clkA)); (case iv => exact ⟨(BInv.nx (z' := ⟨W, st + 1, 1, r.wd, r.vl, false, stb, kdb, wdb, vlb, chb, true, n, c0, c1, some ⟨ep, r.nx, r.sn, r.fl, r.tm, none⟩, c3, p0, q0, p1, q1, p2, q2, p3, q3, d0, d1, d2, d3⟩) b hLn hWn (b.o0) (b.o1) (okn) (b.o3) (hi := by show 2 * i + 1 + 1 ≤ 10000; omega)).mono (by show 2 * i + 1 + 1 ≤ 2 * (i + 1) + 0; omega) (by show 2 * (i + 1) + 0 ≤ 10000; omega), by show i + 1 + 0 ≤ N; omega, by show i + 1 + 0 ≤ 150; omega, m, h.j, h.bf⟩))
set_option maxHeartbeats 4000000 in
theorem t1r2n1 (h : LInv R N 1 x) (hin : x.i < N) (hi : x.i < 150) {r : RR} {ep nx sn fl tm : Int} (hc : x.z.c2 = some ⟨ep, nx, sn, fl, tm, none⟩) (hr : rStep R ⟨ep, nx, sn, fl, tm, none⟩ x.z.W x.z.st = r) (e0 : r.k = 1) (J : ∀ p, LJJ p R N cap o x ρ w I) : ∃ p, LK p 2 R N cap o x ρ w I := by
  have F := h.facts hin hi
  obtain ⟨i, ⟨W, st, kd, wd, vl, ch, stb, kdb, wdb, vlb, chb, f, n, c0, c1, c2, c3, p0, q0, p1, q1, p2, q2, p3, q3, d0, d1, d2, d3⟩, now, bm, mm⟩ := x
  dsimp only at hin hi hc hr F
  subst hc
  have b := h.b
  have m := h.m
  obtain ⟨hin1, hi1, ewi, r1, r2, hl, hl16, w0, w1, s0, s1, n0, n1⟩ := F
  have ok : ROk R ⟨ep, nx, sn, fl, tm, none⟩ := b.o2
  have aft := rAft (st := st) ok w0 w1
  have hdec := mr_dec (st := st) (W := W) ok w0 w1
  rw [hr] at aft hdec
  have hLn := hl
  have hLr := hl.symm
  have hWn := b.hw
  refine ⟨⟨f, c0, c1, false, 2, false, 1, w00, r⟩, ?_⟩
  have hX := hXTl ⟨f, c0, c1, false, 2, false, 1, w00, r⟩
  dsimp only [LK, lkT, llH, wdH]
  refine sx hX [] 4000 rfl (by (simp [-List.getD_eq_getElem?_getD, -List.length_eq_zero_iff, conjP, getH, HE.so, r1, r2, hl, w0, w1, s0, s1, slV, ok, hr, e0])) ?_
  (refine J _ ⟨i + 1, ⟨W, st + 1, 1, r.wd, r.vl, false, stb, kdb, wdb, vlb, chb, true, n, c0, c1, none, c3, p0, q0, p1, q1, p2, q2, p3, q3, d0, d1, d2, d3⟩, now, bm, mm⟩ ?iv rfl _ _ _ (sub_of [0, 1, 2, 3, 4, 5, 21, 7, 8, 9, 10, 11, 12, 13, 14, 15, 60, 61, 18, 19, 20] rfl rfl rfl rfl ?tt ?hh ?ot ?ok); (case tt => simp only [ewi]; (exact clhA)); (case hh => (exact clhA)); (case ot => (exact clkA)); (case ok => (exact clkA)); (case iv => exact ⟨(BInv.nx (z' := ⟨W, st + 1, 1, r.wd, r.vl, false, stb, kdb, wdb, vlb, chb, true, n, c0, c1, none, c3, p0, q0, p1, q1, p2, q2, p3, q3, d0, d1, d2, d3⟩) b hLn hWn (b.o0) (b.o1) (trivial) (b.o3) (hi := by show 2 * i + 1 + 1 ≤ 10000; omega)).mono (by show 2 * i + 1 + 1 ≤ 2 * (i + 1) + 0; omega) (by show 2 * (i + 1) + 0 ≤ 10000; omega), by show i + 1 + 0 ≤ N; omega, by show i + 1 + 0 ≤ 150; omega, m, h.j, h.bf⟩))
set_option maxHeartbeats 4000000 in
theorem t1r2n3 (h : LInv R N 1 x) (hin : x.i < N) (hi : x.i < 150) {r : RR} {ep nx sn fl tm : Int} (hc : x.z.c2 = some ⟨ep, nx, sn, fl, tm, none⟩) (hr : rStep R ⟨ep, nx, sn, fl, tm, none⟩ x.z.W x.z.st = r) (e0 : r.k = 3) (J : ∀ p, LJJ p R N cap o x ρ w I) : ∃ p, LK p 2 R N cap o x ρ w I := by
  have F := h.facts hin hi
  obtain ⟨i, ⟨W, st, kd, wd, vl, ch, stb, kdb, wdb, vlb, chb, f, n, c0, c1, c2, c3, p0, q0, p1, q1, p2, q2, p3, q3, d0, d1, d2, d3⟩, now, bm, mm⟩ := x
  dsimp only at hin hi hc hr F
  subst hc
  have b := h.b
  have m := h.m
  obtain ⟨hin1, hi1, ewi, r1, r2, hl, hl16, w0, w1, s0, s1, n0, n1⟩ := F
  have ok : ROk R ⟨ep, nx, sn, fl, tm, none⟩ := b.o2
  have aft := rAft (st := st) ok w0 w1
  have hdec := mr_dec (st := st) (W := W) ok w0 w1
  rw [hr] at aft hdec
  have hLn := hl
  have hLr := hl.symm
  have hWn := b.hw
  have hd1 := hdec (.inr (.inl e0))
  have okn := aft.go (.inr (.inl e0))
  obtain ⟨e4, e2, e1, _, _, e3, _⟩ := aft.wd e0
  rw [e3] at okn hd1
  refine ⟨⟨f, c0, c1, false, 2, false, 3, w00, r⟩, ?_⟩
  have hX := hXTl ⟨f, c0, c1, false, 2, false, 3, w00, r⟩
  dsimp only [LK, lkT, llH, wdH]
  refine sx hX [] 4000 rfl (by (simp [-List.getD_eq_getElem?_getD, -List.length_eq_zero_iff, conjP, getH, HE.so, r1, r2, hl, w0, w1, s0, s1, slV, ok, hr, e0])) ?_
  (refine J _ ⟨i + 1, ⟨W, st + 1, 1, r.wd, r.vl, false, stb, kdb, wdb, vlb, chb, true, n, c0, c1, some ⟨ep, r.nx, r.sn, r.fl, r.tm, (some [r.vl])⟩, c3, p0, q0, p1, q1, p2, q2, p3, q3, d0, d1, d2, d3⟩, now, bm, mm⟩ ?iv rfl _ _ _ (sub_of [0, 1, 2, 3, 4, 5, 22, 7, 8, 9, 10, 11, 12, 13, 14, 15, 16, 21, 18, 19, 20] rfl rfl rfl rfl ?tt ?hh ?ot ?ok); (case tt => simp only [ewi]; (exact clhA)); (case hh => (exact clhA)); (case ot => (exact clkA)); (case ok => (exact clkA)); (case iv => exact ⟨(BInv.nx (z' := ⟨W, st + 1, 1, r.wd, r.vl, false, stb, kdb, wdb, vlb, chb, true, n, c0, c1, some ⟨ep, r.nx, r.sn, r.fl, r.tm, (some [r.vl])⟩, c3, p0, q0, p1, q1, p2, q2, p3, q3, d0, d1, d2, d3⟩) b hLn hWn (b.o0) (b.o1) (okn) (b.o3) (hi := by show 2 * i + 1 + 1 ≤ 10000; omega)).mono (by show 2 * i + 1 + 1 ≤ 2 * (i + 1) + 0; omega) (by show 2 * (i + 1) + 0 ≤ 10000; omega), by show i + 1 + 0 ≤ N; omega, by show i + 1 + 0 ≤ 150; omega, m, h.j, h.bf⟩))
set_option maxHeartbeats 4000000 in
theorem t1r2s0 (h : LInv R N 1 x) (hin : x.i < N) (hi : x.i < 150) {r : RR} {ep nx sn fl tm : Int} {l : List Int} (hc : x.z.c2 = some ⟨ep, nx, sn, fl, tm, (some l)⟩) (hr : rStep R ⟨ep, nx, sn, fl, tm, (some l)⟩ x.z.W x.z.st = r) (e0 : r.k = 0) (J : ∀ p, LJJ p R N cap o x ρ w I) : ∃ p, LK p 2 R N cap o x ρ w I := by
  have F := h.facts hin hi
  obtain ⟨i, ⟨W, st, kd, wd, vl, ch, stb, kdb, wdb, vlb, chb, f, n, c0, c1, c2, c3, p0, q0, p1, q1, p2, q2, p3, q3, d0, d1, d2, d3⟩, now, bm, mm⟩ := x
  dsimp only at hin hi hc hr F
  subst hc
  have b := h.b
  have m := h.m
  obtain ⟨hin1, hi1, ewi, r1, r2, hl, hl16, w0, w1, s0, s1, n0, n1⟩ := F
  have ok : ROk R ⟨ep, nx, sn, fl, tm, (some l)⟩ := b.o2
  have aft := rAft (st := st) ok w0 w1
  have hdec := mr_dec (st := st) (W := W) ok w0 w1
  rw [hr] at aft hdec
  have hLn := hl
  have hLr := hl.symm
  have hWn := b.hw
  have hd1 := hdec (.inl e0)
  have okn := aft.go (.inl e0)
  obtain ⟨e4, e3, e2, e1, _⟩ := aft.lk e0
  rw [e3] at okn hd1
  refine ⟨⟨f, c0, c1, false, 2, false, 0, w00, r⟩, ?_⟩
  have hX := hXTl ⟨f, c0, c1, false, 2, false, 0, w00, r⟩
  dsimp only [LK, lkT, llH, wdH]
  refine sx hX [] 4000 rfl (by (simp [-List.getD_eq_getElem?_getD, -List.length_eq_zero_iff, conjP, getH, HE.so, r1, r2, hl, w0, w1, s0, s1, slV, ok, hr, e0])) ?_
  (refine J _ ⟨i + 1, ⟨W, st + 1, 1, r.wd, r.vl, false, stb, kdb, wdb, vlb, chb, true, n, c0, c1, some ⟨ep, r.nx, r.sn, r.fl, r.tm, none⟩, c3, p0, q0, p1, q1, p2, q2, p3, q3, d0, d1, d2, d3⟩, now, bm, mm⟩ ?iv rfl _ _ _ (sub_of [0, 1, 2, 3, 4, 5, 21, 7, 8, 9, 10, 11, 12, 13, 14, 15, 16, 61, 18, 19, 20] rfl rfl rfl rfl ?tt ?hh ?ot ?ok); (case tt => simp only [ewi]; (exact clhA)); (case hh => (exact clhA)); (case ot => (exact clkA)); (case ok => (exact clkA)); (case iv => exact ⟨(BInv.nx (z' := ⟨W, st + 1, 1, r.wd, r.vl, false, stb, kdb, wdb, vlb, chb, true, n, c0, c1, some ⟨ep, r.nx, r.sn, r.fl, r.tm, none⟩, c3, p0, q0, p1, q1, p2, q2, p3, q3, d0, d1, d2, d3⟩) b hLn hWn (b.o0) (b.o1) (okn) (b.o3) (hi := by show 2 * i + 1 + 1 ≤ 10000; omega)).mono (by show 2 * i + 1 + 1 ≤ 2 * (i + 1) + 0; omega) (by show 2 * (i + 1) + 0 ≤ 10000; omega), by show i + 1 + 0 ≤ N; omega, by show i + 1 + 0 ≤ 150; omega, m, h.j, h.bf⟩))
set_option maxHeartbeats 4000000 in
theorem t1r2s1 (h : LInv R N 1 x) (hin : x.i < N) (hi : x.i < 150) {r : RR} {ep nx sn fl tm : Int} {l : List Int} (hc : x.z.c2 = some ⟨ep, nx, sn, fl, tm, (some l)⟩) (hr : rStep R ⟨ep, nx, sn, fl, tm, (some l)⟩ x.z.W x.z.st = r) (e0 : r.k = 1) (J : ∀ p, LJJ p R N cap o x ρ w I) : ∃ p, LK p 2 R N cap o x ρ w I := by
  have F := h.facts hin hi
  obtain ⟨i, ⟨W, st, kd, wd, vl, ch, stb, kdb, wdb, vlb, chb, f, n, c0, c1, c2, c3, p0, q0, p1, q1, p2, q2, p3, q3, d0, d1, d2, d3⟩, now, bm, mm⟩ := x
  dsimp only at hin hi hc hr F
  subst hc
  have b := h.b
  have m := h.m
  obtain ⟨hin1, hi1, ewi, r1, r2, hl, hl16, w0, w1, s0, s1, n0, n1⟩ := F
  have ok : ROk R ⟨ep, nx, sn, fl, tm, (some l)⟩ := b.o2
  have aft := rAft (st := st) ok w0 w1
  have hdec := mr_dec (st := st) (W := W) ok w0 w1
  rw [hr] at aft hdec
  have hLn := hl
  have hLr := hl.symm
  have hWn := b.hw
  refine ⟨⟨f, c0, c1, false, 2, false, 1, w00, r⟩, ?_⟩
  have hX := hXTl ⟨f, c0, c1, false, 2, false, 1, w00, r⟩
  dsimp only [LK, lkT, llH, wdH]
  refine sx hX [] 4000 rfl (by (simp [-List.getD_eq_getElem?_getD, -List.length_eq_zero_iff, conjP, getH, HE.so, r1, r2, hl, w0, w1, s0, s1, slV, ok, hr, e0])) ?_
  (refine J _ ⟨i + 1, ⟨W, st + 1, 1, r.wd, r.vl, false, stb, kdb, wdb, vlb, chb, true, n, c0, c1, none, c3, p0, q0, p1, q1, p2, q2, p3, q3, d0, d1, d2, d3⟩, now, bm, mm⟩ ?iv rfl _ _ _ (sub_of [0, 1, 2, 3, 4, 5, 21, 7, 8, 9, 10, 11, 12, 13, 14, 15, 60, 61, 18, 19, 20] rfl rfl rfl rfl ?tt ?hh ?ot ?ok); (case tt => simp only [ewi]; (exact clhA)); (case hh => (exact clhA)); (case ot => (exact clkA)); (case ok => (exact clkA)); (case iv => exact ⟨(BInv.nx (z' := ⟨W, st + 1, 1, r.wd, r.vl, false, stb, kdb, wdb, vlb, chb, true, n, c0, c1, none, c3, p0, q0, p1, q1, p2, q2, p3, q3, d0, d1, d2, d3⟩) b hLn hWn (b.o0) (b.o1) (trivial) (b.o3) (hi := by show 2 * i + 1 + 1 ≤ 10000; omega)).mono (by show 2 * i + 1 + 1 ≤ 2 * (i + 1) + 0; omega) (by show 2 * (i + 1) + 0 ≤ 10000; omega), by show i + 1 + 0 ≤ N; omega, by show i + 1 + 0 ≤ 150; omega, m, h.j, h.bf⟩))
set_option maxHeartbeats 4000000 in
theorem t1r2s3 (h : LInv R N 1 x) (hin : x.i < N) (hi : x.i < 150) {r : RR} {ep nx sn fl tm : Int} {l : List Int} (hc : x.z.c2 = some ⟨ep, nx, sn, fl, tm, (some l)⟩) (hr : rStep R ⟨ep, nx, sn, fl, tm, (some l)⟩ x.z.W x.z.st = r) (e0 : r.k = 3) (J : ∀ p, LJJ p R N cap o x ρ w I) : ∃ p, LK p 2 R N cap o x ρ w I := by
  have F := h.facts hin hi
  obtain ⟨i, ⟨W, st, kd, wd, vl, ch, stb, kdb, wdb, vlb, chb, f, n, c0, c1, c2, c3, p0, q0, p1, q1, p2, q2, p3, q3, d0, d1, d2, d3⟩, now, bm, mm⟩ := x
  dsimp only at hin hi hc hr F
  subst hc
  have b := h.b
  have m := h.m
  obtain ⟨hin1, hi1, ewi, r1, r2, hl, hl16, w0, w1, s0, s1, n0, n1⟩ := F
  have ok : ROk R ⟨ep, nx, sn, fl, tm, (some l)⟩ := b.o2
  have aft := rAft (st := st) ok w0 w1
  have hdec := mr_dec (st := st) (W := W) ok w0 w1
  rw [hr] at aft hdec
  have hLn := hl
  have hLr := hl.symm
  have hWn := b.hw
  have hwl : (l ++ [r.vl]).length = l.length + 1 := by simp
  have hwr := hwl.symm
  have hd1 := hdec (.inr (.inl e0))
  have okn := aft.go (.inr (.inl e0))
  obtain ⟨e4, e2, e1, _, _, e3, _⟩ := aft.wd e0
  rw [e3] at okn hd1
  refine ⟨⟨f, c0, c1, false, 2, false, 3, w00, r⟩, ?_⟩
  have hX := hXTl ⟨f, c0, c1, false, 2, false, 3, w00, r⟩
  dsimp only [LK, lkT, llH, wdH]
  refine sx hX [] 4000 rfl (by (simp [-List.getD_eq_getElem?_getD, -List.length_eq_zero_iff, conjP, getH, HE.so, r1, r2, hl, w0, w1, s0, s1, slV, ok, hr, e0])) ?_
  (refine J _ ⟨i + 1, ⟨W, st + 1, 1, r.wd, r.vl, false, stb, kdb, wdb, vlb, chb, true, n, c0, c1, some ⟨ep, r.nx, r.sn, r.fl, r.tm, (some (l ++ [r.vl]))⟩, c3, p0, q0, p1, q1, p2, q2, p3, q3, d0, d1, d2, d3⟩, now, bm, mm⟩ ?iv rfl _ _ _ (sub_of [0, 1, 2, 3, 4, 5, 22, 7, 8, 9, 10, 11, 12, 13, 14, 15, 16, 21, 18, 19, 20] rfl rfl rfl rfl ?tt ?hh ?ot ?ok); (case tt => simp only [ewi]; (exact clhA)); (case hh => (exact clhA)); (case ot => (exact clkA)); (case ok => (exact clkA)); (case iv => exact ⟨(BInv.nx (z' := ⟨W, st + 1, 1, r.wd, r.vl, false, stb, kdb, wdb, vlb, chb, true, n, c0, c1, some ⟨ep, r.nx, r.sn, r.fl, r.tm, (some (l ++ [r.vl]))⟩, c3, p0, q0, p1, q1, p2, q2, p3, q3, d0, d1, d2, d3⟩) b hLn hWn (b.o0) (b.o1) (okn) (b.o3) (hi := by show 2 * i + 1 + 1 ≤ 10000; omega)).mono (by show 2 * i + 1 + 1 ≤ 2 * (i + 1) + 0; omega) (by show 2 * (i + 1) + 0 ≤ 10000; omega), by show i + 1 + 0 ≤ N; omega, by show i + 1 + 0 ≤ 150; omega, m, h.j, h.bf⟩))
set_option maxHeartbeats 4000000 in
theorem t1r2s2 (h : LInv R N 1 x) (hin : x.i < N) (hi : x.i < 150) {r : RR} {ep nx sn fl tm : Int} {l : List Int} (hc : x.z.c2 = some ⟨ep, nx, sn, fl, tm, (some l)⟩) (hr : rStep R ⟨ep, nx, sn, fl, tm, (some l)⟩ x.z.W x.z.st = r) (e0 : r.k = 2) (J : ∀ p, LJJ p R N cap o x ρ w I) : ∃ p, LK p 2 R N cap o x ρ w I := by
  have F := h.facts hin hi
  obtain ⟨i, ⟨W, st, kd, wd, vl, ch, stb, kdb, wdb, vlb, chb, f, n, c0, c1, c2, c3, p0, q0, p1, q1, p2, q2, p3, q3, d0, d1, d2, d3⟩, now, bm, mm⟩ := x
  dsimp only at hin hi hc hr F
  subst hc
  have b := h.b
  have m := h.m
  obtain ⟨hin1, hi1, ewi, r1, r2, hl, hl16, w0, w1, s0, s1, n0, n1⟩ := F
  have ok : ROk R ⟨ep, nx, sn, fl, tm, (some l)⟩ := b.o2
  have aft := rAft (st := st) ok w0 w1
  have hdec := mr_dec (st := st) (W := W) ok w0 w1
  rw [hr] at aft hdec
  have hLn := hl
  have hLr := hl.symm
  have hWn := b.hw
  refine ⟨⟨f, c0, c1, false, 2, false, 2, w00, r⟩, ?_⟩
  have hX := hXTl ⟨f, c0, c1, false, 2, false, 2, w00, r⟩
  dsimp only [LK, lkT, llH, wdH]
  refine sx hX [] 4000 rfl (by (simp [-List.getD_eq_getElem?_getD, -List.length_eq_zero_iff, conjP, getH, HE.so, r1, r2, hl, w0, w1, s0, s1, slV, ok, hr, e0])) ?_
  (refine J _ ⟨i + 1, ⟨W, st + 1, 1, r.wd, r.vl, false, stb, kdb, wdb, vlb, chb, true, n, c0, c1, none, c3, p0, q0, p1, q1, p2, q2, p3, q3, d0, d1, d2, d3⟩, now, bm, mm⟩ ?iv rfl _ _ _ (sub_of [0, 1, 2, 3, 4, 5, 21, 7, 8, 9, 10, 11, 12, 13, 14, 15, 60, 61, 18, 19, 20] rfl rfl rfl rfl ?tt ?hh ?ot ?ok); (case tt => simp only [ewi]; (exact clhA)); (case hh => (exact clhA)); (case ot => (exact clkA)); (case ok => (exact clkA)); (case iv => exact ⟨(BInv.nx (z' := ⟨W, st + 1, 1, r.wd, r.vl, false, stb, kdb, wdb, vlb, chb, true, n, c0, c1, none, c3, p0, q0, p1, q1, p2, q2, p3, q3, d0, d1, d2, d3⟩) b hLn hWn (b.o0) (b.o1) (trivial) (b.o3) (hi := by show 2 * i + 1 + 1 ≤ 10000; omega)).mono (by show 2 * i + 1 + 1 ≤ 2 * (i + 1) + 0; omega) (by show 2 * (i + 1) + 0 ≤ 10000; omega), by show i + 1 + 0 ≤ N; omega, by show i + 1 + 0 ≤ 150; omega, m, h.j, h.bf⟩))
set_option maxHeartbeats 4000000 in
theorem t1r2s4 (h : LInv R N 1 x) (hin : x.i < N) (hi : x.i < 150) {r : RR} {ep nx sn fl tm : Int} {l : List Int} (hc : x.z.c2 = some ⟨ep, nx, sn, fl, tm, (some l)⟩) (hr : rStep R ⟨ep, nx, sn, fl, tm, (some l)⟩ x.z.W x.z.st = r) (e0 : r.k = 4) (J : ∀ p, LJJ p R N cap o x ρ w I) : ∃ p, LK p 2 R N cap o x ρ w I := by
  have F := h.facts hin hi
  obtain ⟨i, ⟨W, st, kd, wd, vl, ch, stb, kdb, wdb, vlb, chb, f, n, c0, c1, c2, c3, p0, q0, p1, q1, p2, q2, p3, q3, d0, d1, d2, d3⟩, now, bm, mm⟩ := x
  dsimp only at hin hi hc hr F
  subst hc
  have b := h.b
  have m := h.m
  obtain ⟨hin1, hi1, ewi, r1, r2, hl, hl16, w0, w1, s0, s1, n0, n1⟩ := F
  have ok : ROk R ⟨ep, nx, sn, fl, tm, (some l)⟩ := b.o2
  have aft := rAft (st := st) ok w0 w1
  have hdec := mr_dec (st := st) (W := W) ok w0 w1
  rw [hr] at aft hdec
  have hLn := hl
  have hLr := hl.symm
  have hWn := b.hw
  have hd1 := hdec (.inr (.inr e0))
  have okn := aft.go (.inr (.inr e0))
  obtain ⟨e4, e3, e1, e2⟩ := aft.fa (.inl e0)
  rw [e2] at okn hd1
  refine ⟨⟨f, c0, c1, false, 2, false, 4, w00, r⟩, ?_⟩
  have hX := hXTl ⟨f, c0, c1, false, 2, false, 4, w00, r⟩
  dsimp only [LK, lkT, llH, wdH]
  refine sx hX [] 4000 rfl (by (simp [-List.getD_eq_getElem?_getD, -List.length_eq_zero_iff, conjP, getH, HE.so, r1, r2, hl, w0, w1, s0, s1, slV, ok, hr, e0])) ?_
  (refine J _ ⟨i + 1, ⟨W, st + 1, 1, r.wd, r.vl, false, stb, kdb, wdb, vlb, chb, true, n, c0, c1, some ⟨ep, r.nx, r.sn, r.fl, r.tm, (some l)⟩, c3, p0, q0, p1, q1, p2, q2, p3, q3, d0, d1, d2, d3⟩, now, bm, mm⟩ ?iv rfl _ _ _ (sub_of [0, 1, 2, 3, 4, 5, 21, 7, 8, 9, 10, 11, 12, 13, 14, 15, 16, 17, 18, 19, 20] rfl rfl rfl rfl ?tt ?hh ?ot ?ok); (case tt => simp only [ewi]; (exact clhA)); (case hh => (exact clhA)); (case ot => (exact clkA)); (case ok => (exact clkA)); (case iv => exact ⟨(BInv.nx (z' := ⟨W, st + 1, 1, r.wd, r.vl, false, stb, kdb, wdb, vlb, chb, true, n, c0, c1, some ⟨ep, r.nx, r.sn, r.fl, r.tm, (some l)⟩, c3, p0, q0, p1, q1, p2, q2, p3, q3, d0, d1, d2, d3⟩) b hLn hWn (b.o0) (b.o1) (okn) (b.o3) (hi := by show 2 * i + 1 + 1 ≤ 10000; omega)).mono (by show 2 * i + 1 + 1 ≤ 2 * (i + 1) + 0; omega) (by show 2 * (i + 1) + 0 ≤ 10000; omega), by show i + 1 + 0 ≤ N; omega, by show i + 1 + 0 ≤ 150; omega, m, h.j, h.bf⟩))
set_option maxHeartbeats 4000000 in
theorem t1r2s5 (h : LInv R N 1 x) (hin : x.i < N) (hi : x.i < 150) {r : RR} {ep nx sn fl tm : Int} {l : List Int} (hc : x.z.c2 = some ⟨ep, nx, sn, fl, tm, (some l)⟩) (hr : rStep R ⟨ep, nx, sn, fl, tm, (some l)⟩ x.z.W x.z.st = r) (e0 : r.k = 5) (J : ∀ p, LJJ p R N cap o x ρ w I) : ∃ p, LK p 2 R N cap o x ρ w I := by
  have F := h.facts hin hi
  obtain ⟨i, ⟨W, st, kd, wd, vl, ch, stb, kdb, wdb, vlb, chb, f, n, c0, c1, c2, c3, p0, q0, p1, q1, p2, q2, p3, q3, d0, d1, d2, d3⟩, now, bm, mm⟩ := x
  dsimp only at hin hi hc hr F
  subst hc
  have b := h.b
  have m := h.m
  obtain ⟨hin1, hi1, ewi, r1, r2, hl, hl16, w0, w1, s0, s1, n0, n1⟩ := F
  have ok : ROk R ⟨ep, nx, sn, fl, tm, (some l)⟩ := b.o2
  have aft := rAft (st := st) ok w0 w1
  have hdec := mr_dec (st := st) (W := W) ok w0 w1
  rw [hr] at aft hdec
  have hLn := hl
  have hLr := hl.symm
  have hWn := b.hw
  refine ⟨⟨f, c0, c1, false, 2, false, 5, w00, r⟩, ?_⟩
  have hX := hXTl ⟨f, c0, c1, false, 2, false, 5, w00, r⟩
  dsimp only [LK, lkT, llH, wdH]
  refine sx hX [] 4000 rfl (by (simp [-List.getD_eq_getElem?_getD, -List.length_eq_zero_iff, conjP, getH, HE.so, r1, r2, hl, w0, w1, s0, s1, slV, ok, hr, e0])) ?_
  (refine J _ ⟨i + 1, ⟨W, st + 1, 1, r.wd, r.vl, false, stb, kdb, wdb, vlb, chb, true, n, c0, c1, none, c3, p0, q0, p1, q1, p2, q2, p3, q3, d0, d1, d2, d3⟩, now, bm, mm⟩ ?iv rfl _ _ _ (sub_of [0, 1, 2, 3, 4, 5, 21, 7, 8, 9, 10, 11, 12, 13, 14, 15, 60, 61, 18, 19, 20] rfl rfl rfl rfl ?tt ?hh ?ot ?ok); (case tt => simp only [ewi]; (exact clhA)); (case hh => (exact clhA)); (case ot => (exact clkA)); (case ok => (exact clkA)); (case iv => exact ⟨(BInv.nx (z' := ⟨W, st + 1, 1, r.wd, r.vl, false, stb, kdb, wdb, vlb, chb, true, n, c0, c1, none, c3, p0, q0, p1, q1, p2, q2, p3, q3, d0, d1, d2, d3⟩) b hLn hWn (b.o0) (b.o1) (trivial) (b.o3) (hi := by show 2 * i + 1 + 1 ≤ 10000; omega)).mono (by show 2 * i + 1 + 1 ≤ 2 * (i + 1) + 0; omega) (by show 2 * (i + 1) + 0 ≤ 10000; omega), by show i + 1 + 0 ≤ N; omega, by show i + 1 + 0 ≤ 150; omega, m, h.j, h.bf⟩))
theorem t1t2 (h : LInv R N 1 x) (hin : x.i < N) (hi : x.i < 150) (hne : x.z.c2 ≠ none) (J : ∀ p, LJJ p R N cap o x ρ w I) : ∃ p, LK p 2 R N cap o x ρ w I := by
  rcases hc : x.z.c2 with _ | ⟨ep, nx, sn, fl, tm, o'⟩
  · exact absurd hc hne
  · have ok : ROk R ⟨ep, nx, sn, fl, tm, o'⟩ := by have q := h.b.o2; rw [hc] at q; exact q
    rcases o' with _ | l
    · rcases (show nx = 1 ∨ nx = 3 ∨ nx = 4 from ok.nxc) with g | g | g
      · rcases rk1 (R := R) (W := x.z.W) (st := x.z.st) (s := ⟨ep, nx, sn, fl, tm, none⟩) g with e | e
        · exact t1r2n0 h hin hi hc rfl e J
        · exact t1r2n1 h hin hi hc rfl e J
      · exact t1r2n3 h hin hi hc rfl (rk3 g) J
      · exact absurd (show (0 : Nat) = 4 from ok.w4 g) (by decide)
    · rcases (show nx = 1 ∨ nx = 3 ∨ nx = 4 from ok.nxc) with g | g | g
      · rcases rk1 (R := R) (W := x.z.W) (st := x.z.st) (s := ⟨ep, nx, sn, fl, tm, some l⟩) g with e | e
        · exact t1r2s0 h hin hi hc rfl e J
        · exact t1r2s1 h hin hi hc rfl e J
      · exact t1r2s3 h hin hi hc rfl (rk3 g) J
      · rcases rk4 (R := R) (W := x.z.W) (st := x.z.st) (s := ⟨ep, nx, sn, fl, tm, some l⟩) g with e | e | e
        · exact t1r2s2 h hin hi hc rfl e J
        · exact t1r2s4 h hin hi hc rfl e J
        · exact t1r2s5 h hin hi hc rfl e J
end
end Go.Proofs.YtmghcelohnlceaaGreatDoor

/- SmallLast: client 3 has its turn, in loop 1. -/
namespace Go.Proofs.YtmghcelohnlceaaGreatDoor
open Go Go.Hx
set_option maxRecDepth 8000
section
variable {R : Int} {N cap : Nat} {o : Nat → Int × Int} {x : LS} {ρ : Nat → Nat × Nat} {w : World} {I : Act → World → Prop}

set_option maxHeartbeats 4000000 in
theorem t1r3n0 (h : LInv R N 1 x) (hin : x.i < N) (hi : x.i < 150) {r : RR} {ep nx sn fl tm : Int} (hc : x.z.c3 = some ⟨ep, nx, sn, fl, tm, none⟩) (hr : rStep R ⟨ep, nx, sn, fl, tm, none⟩ x.z.W x.z.st = r) (e0 : r.k = 0) (J : ∀ p, LJJ p R N cap o x ρ w I) : ∃ p, LK p 3 R N cap o x ρ w I := by
  have F := h.facts hin hi
  obtain ⟨i, ⟨W, st, kd, wd, vl, ch, stb, kdb, wdb, vlb, chb, f, n, c0, c1, c2, c3, p0, q0, p1, q1, p2, q2, p3, q3, d0, d1, d2, d3⟩, now, bm, mm⟩ := x
  dsimp only at hin hi hc hr F
  subst hc
  have b := h.b
  have m := h.m
  obtain ⟨hin1, hi1, ewi, r1, r2, hl, hl16, w0, w1, s0, s1, n0, n1⟩ := F
  have ok : ROk R ⟨ep, nx, sn, fl, tm, none⟩ := b.o3
  have aft := rAft (st := st) ok w0 w1
  have hdec := mr_dec (st := st) (W := W) ok w0 w1
  rw [hr] at aft hdec
  have hLn := hl
  have hLr := hl.symm
  have hWn := b.hw
  have hd1 := hdec (.inl e0)
  have okn := aft.go (.inl e0)
  obtain ⟨e4, e3, e2, e1, _⟩ := aft.lk e0
  rw [e3] at okn hd1
  refine ⟨⟨f, c0, c1, false, 3, false, 0, w00, r⟩, ?_⟩
  have hX := hXTl ⟨f, c0, c1, false, 3, false, 0, w00, r⟩
  dsimp only [LK, lkT, llH, wdH]
  refine sx hX [] 4000 rfl (by (simp [-List.getD_eq_getElem?_getD, -List.length_eq_zero_iff, conjP, getH, HE.so, r1, r2, hl, w0, w1, s0, s1, slV, ok, hr, e0])) ?_
  (refine J _ ⟨i + 1, ⟨W, st + 1, 1, r.wd, r.vl, false, stb, kdb, wdb, vlb, chb, true, n, c0, c1, c2, some ⟨ep, r.nx, r.sn, r.fl, r.tm, none⟩, p0, q0, p1, q1, p2, q2, p3, q3, d0, d1, d2, d3⟩, now, bm, mm⟩ ?iv rfl _ _ _ (sub_of [0, 1, 2, 3, 4, 5, 21, 7, 8, 9, 10, 11, 12, 13, 14, 15, 16, 17, 18, 61, 20] rfl rfl rfl rfl ?tt ?hh ?ot ?ok); (case tt => simp only [ewi]; (exact clhA)); (case hh => (exact clhA)); (case ot => (exact clkA)); (case ok => (exact clkA)); (case iv => exact ⟨(BInv.nx (z' := ⟨W, st + 1, 1, r.wd, r.vl, false, stb, kdb, wdb, vlb, chb, true, n, c0, c1, c2, some ⟨ep, r.nx, r.sn, r.fl, r.tm, none⟩, p0, q0, p1, q1, p2, q2, p3, q3, d0, d1, d2, d3⟩) b hLn hWn (b.o0) (b.o1) (b.o2) (okn) (hi := by show 2 * i + 1 + 1 ≤ 10000; omega)).mono (by show 2 * i + 1 + 1 ≤ 2 * (i + 1) + 0; omega) (by show 2 * (i + 1) + 0 ≤ 10000; omega), by show i + 1 + 0 ≤ N; omega, by show i + 1 + 0 ≤ 150; omega, m, h.j, h.bf⟩))
set_option maxHeartbeats 4000000 in
theorem t1r3n1 (h : LInv R N 1 x) (hin : x.i < N) (hi : x.i < 150) {r : RR} {ep nx sn fl tm : Int} (hc : x.z.c3 = some ⟨ep, nx, sn, fl, tm, none⟩) (hr : rStep R ⟨ep, nx, sn, fl, tm, none⟩ x.z.W x.z.st = r) (e0 : r.k = 1) (J : ∀ p, LJJ p R N cap o x ρ w I) : ∃ p, LK p 3 R N cap o x ρ w I := by
  have F := h.facts hin hi
  obtain ⟨i, ⟨W, st, kd, wd, vl, ch, stb, kdb, wdb, vlb, chb, f, n, c0, c1, c2, c3, p0, q0, p1, q1, p2, q2, p3, q3, d0, d1, d2, d3⟩, now, bm, mm⟩ := x
  dsimp only at hin hi hc hr F
  subst hc
  have b := h.b
  have m := h.m
  obtain ⟨hin1, hi1, ewi, r1, r2, hl, hl16, w0, w1, s0, s1, n0, n1⟩ := F
  have ok : ROk R ⟨ep, nx, sn, fl, tm, none⟩ := b.o3
  have aft := rAft (st := st) ok w0 w1
  have hdec := mr_dec (st := st) (W := W) ok w0 w1
  rw [hr] at aft hdec
  have hLn := hl
  have hLr := hl.symm
  have hWn := b.hw
  refine ⟨⟨f, c0, c1, false, 3, false, 1, w00, r⟩, ?_⟩
  have hX := hXTl ⟨f, c0, c1, false, 3, false, 1, w00, r⟩
  dsimp only [LK, lkT, llH, wdH]
  refine sx hX [] 4000 rfl (by (simp [-List.getD_eq_getElem?_getD, -List.length_eq_zero_iff, conjP, getH, HE.so, r1, r2, hl, w0, w1, s0, s1, slV, ok, hr, e0])) ?_
  (refine J _ ⟨i + 1, ⟨W, st + 1, 1, r.wd, r.vl, false, stb, kdb, wdb, vlb, chb, true, n, c0, c1, c2, none, p0, q0, p1, q1, p2, q2, p3, q3, d0, d1, d2, d3⟩, now, bm, mm⟩ ?iv rfl _ _ _ (sub_of [0, 1, 2, 3, 4, 5, 21, 7, 8, 9, 10, 11, 12, 13, 14, 15, 16, 17, 60, 61, 20] rfl rfl rfl rfl ?tt ?hh ?ot ?ok); (case tt => simp only [ewi]; (exact clhA)); (case hh => (exact clhA)); (case ot => (exact clkA)); (case ok => (exact clkA)); (case iv => exact ⟨(BInv.nx (z' := ⟨W, st + 1, 1, r.wd, r.vl, false, stb, kdb, wdb, vlb, chb, true, n, c0, c1, c2, none, p0, q0, p1, q1, p2, q2, p3, q3, d0, d1, d2, d3⟩) b hLn hWn (b.o0) (b.o1) (b.o2) (trivial) (hi := by show 2 * i + 1 + 1 ≤ 10000; omega)).mono (by show 2 * i + 1 + 1 ≤ 2 * (i + 1) + 0; omega) (by show 2 * (i + 1) + 0 ≤ 10000; omega), by show i + 1 + 0 ≤ N; omega, by show i + 1 + 0 ≤ 150; omega, m, h.j, h.bf⟩))
set_option maxHeartbeats 4000000 in
theorem t1r3n3 (h : LInv R N 1 x) (hin : x.i < N) (hi : x.i < 150) {r : RR} {ep nx sn fl tm : Int} (hc : x.z.c3 = some ⟨ep, nx, sn, fl, tm, none⟩) (hr : rStep R ⟨ep, nx, sn, fl, tm, none⟩ x.z.W x.z.st = r) (e0 : r.k = 3) (J : ∀ p, LJJ p R N cap o x ρ w I) : ∃ p, LK p 3 R N cap o x ρ w I := by
  have F := h.facts hin hi
  obtain ⟨i, ⟨W, st, kd, wd, vl, ch, stb, kdb, wdb, vlb, chb, f, n, c0, c1, c2, c3, p0, q0, p1, q1, p2, q2, p3, q3, d0, d1, d2, d3⟩, now, bm, mm⟩ := x
  dsimp only at hin hi hc hr F
  subst hc
  have b := h.b
  have m := h.m
  obtain ⟨hin1, hi1, ewi, r1, r2, hl, hl16, w0, w1, s0, s1, n0, n1⟩ := F
  have ok : ROk R ⟨ep, nx, sn, fl, tm, none⟩ := b.o3
  have aft := rAft (st := st) ok w0 w1
  have hdec := mr_dec (st := st) (W := W) ok w0 w1
  rw [hr] at aft hdec
  have hLn := hl
  have hLr := hl.symm
  have hWn := b.hw
  have hd1 := hdec (.inr (.inl e0))
  have okn := aft.go (.inr (.inl e0))
  obtain ⟨e4, e2, e1, _, _, e3, _⟩ := aft.wd e0
  rw [e3] at okn hd1
  refine ⟨⟨f, c0, c1, false, 3, false, 3, w00, r⟩, ?_⟩
  have hX := hXTl ⟨f, c0, c1, false, 3, false, 3, w00, r⟩
  dsimp only [LK, lkT, llH, wdH]
  refine sx hX [] 4000 rfl (by (simp [-List.getD_eq_getElem?_getD, -List.length_eq_zero_iff, conjP, getH, HE.so, r1, r2, hl, w0, w1, s0, s1, slV, ok, hr, e0])) ?_
  (refine J _ ⟨i + 1, ⟨W, st + 1, 1, r.wd, r.vl, false, stb, kdb, wdb, vlb, chb, true, n, c0, c1, c2, some ⟨ep, r.nx, r.sn, r.fl, r.tm, (some [r.vl])⟩, p0, q0, p1, q1, p2, q2, p3, q3, d0, d1, d2, d3⟩, now, bm, mm⟩ ?iv rfl _ _ _ (sub_of [0, 1, 2, 3, 4, 5, 22, 7, 8, 9, 10, 11, 12, 13, 14, 15, 16, 17, 18, 21, 20] rfl rfl rfl rfl ?tt ?hh ?ot ?ok); (case tt => simp only [ewi]; (exact clhA)); (case hh => (exact clhA)); (case ot => (exact clkA)); (case ok => (exact clkA)); (case iv => exact ⟨(BInv.nx (z' := ⟨W, st + 1, 1, r.wd, r.vl, false, stb, kdb, wdb, vlb, chb, true, n, c0, c1, c2, some ⟨ep, r.nx, r.sn, r.fl, r.tm, (some [r.vl])⟩, p0, q0, p1, q1, p2, q2, p3, q3, d0, d1, d2, d3⟩) b hLn hWn (b.o0) (b.o1) (b.o2) (okn) (hi := by show 2 * i + 1 + 1 ≤ 10000; omega)).mono (by show 2 * i + 1 + 1 ≤ 2 * (i + 1) + 0; omega) (by show 2 * (i + 1) + 0 ≤ 10000; omega), by show i + 1 + 0 ≤ N; omega, by show i + 1 + 0 ≤ 150; omega, m, h.j, h.bf⟩))
set_option maxHeartbeats 4000000 in
theorem t1r3s0 (h : LInv R N 1 x) (hin : x.i < N) (hi : x.i < 150) {r : RR} {ep nx sn fl tm : Int} {l : List Int} (hc : x.z.c3 = some ⟨ep, nx, sn, fl, tm, (some l)⟩) (hr : rStep R ⟨ep, nx, sn, fl, tm, (some l)⟩ x.z.W x.z.st = r) (e0 : r.k = 0) (J : ∀ p, LJJ p R N cap o x ρ w I) : ∃ p, LK p 3 R N cap o x ρ w I := by
  have F := h.facts hin hi
  obtain ⟨i, ⟨W, st, kd, wd, vl, ch, stb, kdb, wdb, vlb, chb, f, n, c0, c1, c2, c3, p0, q0, p1, q1, p2, q2, p3, q3, d0, d1, d2, d3⟩, now, bm, mm⟩ := x
  dsimp only at hin hi hc hr F
  subst hc
  have b := h.b
  have m := h.m
  obtain ⟨hin1, hi1, ewi, r1, r2, hl, hl16, w0, w1, s0, s1, n0, n1⟩ := F
  have ok : ROk R ⟨ep, nx, sn, fl, tm, (some l)⟩ := b.o3
  have aft := rAft (st := st) ok w0 w1
  have hdec := mr_dec (st := st) (W := W) ok w0 w1
  rw [hr] at aft hdec
  have hLn := hl
  have hLr := hl.symm
  have hWn := b.hw
  have hd1 := hdec (.inl e0)
  have okn := aft.go (.inl e0)
  obtain ⟨e4, e3, e2, e1, _⟩ := aft.lk e0
  rw [e3] at okn hd1
  refine ⟨⟨f, c0, c1, false, 3, false, 0, w00, r⟩, ?_⟩
  have hX := hXTl ⟨f, c0, c1, false, 3, false, 0, w00, r⟩
  dsimp only [LK, lkT, llH, wdH]
  refine sx hX [] 4000 rfl (by (simp [-List.getD_eq_getElem?_getD, -List.length_eq_zero_iff, conjP, getH, HE.so, r1, r2, hl, w0, w1, s0, s1, slV, ok, hr, e0])) ?_
  (refine J _ ⟨i + 1, ⟨W, st + 1, 1, r.wd, r.vl, false, stb, kdb, wdb, vlb, chb, true, n, c0, c1, c2, some ⟨ep, r.nx, r.sn, r.fl, r.tm, none⟩, p0, q0, p1, q1, p2, q2, p3, q3, d0, d1, d2, d3⟩, now, bm, mm⟩ ?iv rfl _ _ _ (sub_of [0, 1, 2, 3, 4, 5, 21, 7, 8, 9, 10, 11, 12, 13, 14, 15, 16, 17, 18, 61, 20] rfl rfl rfl rfl ?tt ?hh ?ot ?ok); (case tt => simp only [ewi]; (exact clhA)); (case hh => (exact clhA)); (case ot => (exact clkA)); (case ok => (exact clkA)); (case iv => exact ⟨(BInv.nx (z' := ⟨W, st + 1, 1, r.wd, r.vl, false, stb, kdb, wdb, vlb, chb, true, n, c0, c1, c2, some ⟨ep, r.nx, r.sn, r.fl, r.tm, none⟩, p0, q0, p1, q1, p2, q2, p3, q3, d0, d1, d2, d3⟩) b hLn hWn (b.o0) (b.o1) (b.o2) (okn) (hi := by show 2 * i + 1 + 1 ≤ 10000; omega)).mono (by show 2 * i + 1 + 1 ≤ 2 * (i + 1) + 0; omega) (by show 2 * (i + 1) + 0 ≤ 10000; omega), by show i + 1 + 0 ≤ N; omega, by show i + 1 + 0 ≤ 150; omega, m, h.j, h.bf⟩))
set_option maxHeartbeats 4000000 in
theorem t1r3s1 (h : LInv R N 1 x) (hin : x.i < N) (hi : x.i < 150) {r : RR} {ep nx sn fl tm : Int} {l : List Int} (hc : x.z.c3 = some ⟨ep, nx, sn, fl, tm, (some l)⟩) (hr : rStep R ⟨ep, nx, sn, fl, tm, (some l)⟩ x.z.W x.z.st = r) (e0 : r.k = 1) (J : ∀ p, LJJ p R N cap o x ρ w I) : ∃ p, LK p 3 R N cap o x ρ w I := by
  have F := h.facts hin hi
  obtain ⟨i, ⟨W, st, kd, wd, vl, ch, stb, kdb, wdb, vlb, chb, f, n, c0, c1, c2, c3, p0, q0, p1, q1, p2, q2, p3, q3, d0, d1, d2, d3⟩, now, bm, mm⟩ := x
  dsimp only at hin hi hc hr F
  subst hc
  have b := h.b
  have m := h.m
  obtain ⟨hin1, hi1, ewi, r1, r2, hl, hl16, w0, w1, s0, s1, n0, n1⟩ := F
  have ok : ROk R ⟨ep, nx, sn, fl, tm, (some l)⟩ := b.o3
  have aft := rAft (st := st) ok w0 w1
  have hdec := mr_dec (st := st) (W := W) ok w0 w1
  rw [hr] at aft hdec
  have hLn := hl
  have hLr := hl.symm
  have hWn := b.hw
  refine ⟨⟨f, c0, c1, false, 3, false, 1, w00, r⟩, ?_⟩
  have hX := hXTl ⟨f, c0, c1, false, 3, false, 1, w00, r⟩
  dsimp only [LK, lkT, llH, wdH]
  refine sx hX [] 4000 rfl (by (simp [-List.getD_eq_getElem?_getD, -List.length_eq_zero_iff, conjP, getH, HE.so, r1, r2, hl, w0, w1, s0, s1, slV, ok, hr, e0])) ?_
  (refine J _ ⟨i + 1, ⟨W, st + 1, 1, r.wd, r.vl, false, stb, kdb, wdb, vlb, chb, true, n, c0, c1, c2, none, p0, q0, p1, q1, p2, q2, p3, q3, d0, d1, d2, d3⟩, now, bm, mm⟩ ?iv rfl _ _ _ (sub_of [0, 1, 2, 3, 4, 5, 21, 7, 8, 9, 10, 11, 12, 13, 14, 15, 16, 17, 60, 61, 20] rfl rfl rfl rfl ?tt ?hh ?ot ?ok); (case tt => simp only [ewi]; (exact clhA)); (case hh => (exact clhA)); (case ot => (exact clkA)); (case ok => (exact clkA)); (case iv => exact ⟨(BInv.nx (z' := ⟨W, st + 1, 1, r.wd, r.vl, false, stb, kdb, wdb, vlb, chb, true, n, c0, c1, c2, none, p0, q0, p1, q1, p2, q2, p3, q3, d0, d1, d2, d3⟩) b hLn hWn (b.o0) (b.o1) (b.o2) (trivial) (hi := by show 2 * i + 1 + 1 ≤ 10000; omega)).mono (by show 2 * i + 1 + 1 ≤ 2 * (i + 1) + 0; omega) (by show 2 * (i + 1) + 0 ≤ 10000; omega), by show i + 1 + 0 ≤ N; omega, by show i + 1 + 0 ≤ 150; omega, m, h.j, h.bf⟩))
set_option maxHeartbeats 4000000 in
theorem t1r3s3 (h : LInv R N 1 x) (hin : x.i < N) (hi : x.i < 150) {r : RR} {ep nx sn fl tm : Int} {l : List Int} (hc : x.z.c3 = some ⟨ep, nx, sn, fl, tm, (some l)⟩) (hr : rStep R ⟨ep, nx, sn, fl, tm, (some l)⟩ x.z.W x.z.st = r) (e0 : r.k = 3) (J : ∀ p, LJJ p R N cap o x ρ w I) : ∃ p, LK p 3 R N cap o x ρ w I := by
  have F := h.facts hin hi
  obtain ⟨i, ⟨W, st, kd, wd, vl, ch, stb, kdb, wdb, vlb, chb, f, n, c0, c1, c2, c3, p0, q0, p1, q1, p2, q2, p3, q3, d0, d1, d2, d3⟩, now, bm, mm⟩ := x
  dsimp only at hin hi hc hr F
  subst hc
  have b := h.b
  have m := h.m
  obtain ⟨hin1, hi1, ewi, r1, r2, hl, hl16, w0, w1, s0, s1, n0, n1⟩ := F
  have ok : ROk R ⟨ep, nx, sn, fl, tm, (some l)⟩ := b.o3
  have aft := rAft (st := st) ok w0 w1
  have hdec := mr_dec (st := st) (W := W) ok w0 w1
  rw [hr] at aft hdec
  have hLn := hl
  have hLr := hl.symm
  have hWn := b.hw
  have hwl : (l ++ [r.vl]).length = l.length + 1 := by simp
  have hwr := hwl.symm
  have hd1 := hdec (.inr (.inl e0))
  have okn := aft.go (.inr (.inl e0))
  obtain ⟨e4, e2, e1, _, _, e3, _⟩ := aft.wd e0
  rw [e3] at okn hd1
  refine ⟨⟨f, c0, c1, false, 3, false, 3, w00, r⟩, ?_⟩
  have hX := hXTl ⟨f, c0, c1, false, 3, false, 3, w00, r⟩
  dsimp only [LK, lkT, llH, wdH]
  refine sx hX [] 4000 rfl (by (simp [-List.getD_eq_getElem?_getD, -List.length_eq_zero_iff, conjP, getH, HE.so, r1, r2, hl, w0, w1, s0, s1, slV, ok, hr, e0])) ?_
  (refine J _ ⟨i + 1, ⟨W, st + 1, 1, r.wd, r.vl, false, stb, kdb, wdb, vlb, chb, true, n, c0, c1, c2, some ⟨ep, r.nx, r.sn, r.fl, r.tm, (some (l ++ [r.vl]))⟩, p0, q0, p1, q1, p2, q2, p3, q3, d0, d1, d2, d3⟩, now, bm, mm⟩ ?iv rfl _ _ _ (sub_of [0, 1, 2, 3, 4, 5, 22, 7, 8, 9, 10, 11, 12, 13, 14, 15, 16, 17, 18, 21, 20] rfl rfl rfl rfl ?tt ?hh ?ot ?ok); (case tt => simp only [ewi]; (exact clhA)); (case hh => (exact clhA)); (case ot => (exact clkA)); (case ok => (exact clkA)); (case iv => exact ⟨(BInv.nx (z' := ⟨W, st + 1, 1, r.wd, r.vl, false, stb, kdb, wdb, vlb, chb, true, n, c0, c1, c2, some ⟨ep, r.nx, r.sn, r.fl, r.tm, (some (l ++ [r.vl]))⟩, p0, q0, p1, q1, p2, q2, p3, q3, d0, d1, d2, d3⟩) b hLn hWn (b.o0) (b.o1) (b.o2) (okn) (hi := by show 2 * i + 1 + 1 ≤ 10000; omega)).mono (by show 2 * i + 1 + 1 ≤ 2 * (i + 1) + 0; omega) (by show 2 * (i + 1) + 0 ≤ 10000; omega), by show i + 1 + 0 ≤ N; omega, by show i + 1 + 0 ≤ 150; omega, m, h.j, h.bf⟩))
set_option maxHeartbeats 4000000 in
theorem t1r3s2 (h : LInv R N 1 x) (hin : x.i < N) (hi : x.i < 150) {r : RR} {ep nx sn fl tm : Int} {l : List Int} (hc : x.z.c3 = some ⟨ep, nx, sn, fl, tm, (some l)⟩) (hr : rStep R ⟨ep, nx, sn, fl, tm, (some l)⟩ x.z.W x.z.st = r) (e0 : r.k = 2) (J : ∀ p, LJJ p R N cap o x ρ w I) : ∃ p, LK p 3 R N cap o x ρ w I := by
  have F := h.facts hin hi
  obtain ⟨i, ⟨W, st, kd, wd, vl, ch, stb, kdb, wdb, vlb, chb, f, n, c0, c1, c2, c3, p0, q0, p1, q1, p2, q2, p3, q3, d0, d1, d2, d3⟩, now, bm, mm⟩ := x
  dsimp only at hin hi hc hr F
  subst hc
  have b := h.b
  have m := h.m
  obtain ⟨hin1, hi1, ewi, r1, r2, hl, hl16, w0, w1, s0, s1, n0, n1⟩ := F
  have ok : ROk R ⟨ep, nx, sn, fl, tm, (some l)⟩ := b.o3
  have aft := rAft (st := st) ok w0 w1
  have hdec := mr_dec (st := st) (W := W) ok w0 w1
  rw [hr] at aft hdec
  have hLn := hl
  have hLr := hl.symm
  have hWn := b.hw
  refine ⟨⟨f, c0, c1, false, 3, false, 2, w00, r⟩, ?_⟩
  have hX := hXTl ⟨f, c0, c1, false, 3, false, 2, w00, r⟩
  dsimp only [LK, lkT, llH, wdH]
  refine sx hX [] 4000 rfl (by (simp [-List.getD_eq_getElem?_getD, -List.length_eq_zero_iff, conjP, getH, HE.so, r1, r2, hl, w0, w1, s0, s1, slV, ok, hr, e0])) ?_
  (refine J _ ⟨i + 1, ⟨W, st + 1, 1, r.wd, r.vl, false, stb, kdb, wdb, vlb, chb, true, n, c0, c1, c2, none, p0, q0, p1, q1, p2, q2, p3, q3, d0, d1, d2, d3⟩, now, bm, mm⟩ ?iv rfl _ _ _ (sub_of [0, 1, 2, 3, 4, 5, 21, 7, 8, 9, 10, 11, 12, 13, 14, 15, 16, 17, 60, 61, 20] rfl rfl rfl rfl ?tt ?hh ?ot ?ok); (case tt => simp only [ewi]; (exact clhA)); (case hh => (exact clhA)); (case ot => (exact clkA)); (case ok => (exact clkA)); (case iv => exact ⟨(BInv.nx (z' := ⟨W, st + 1, 1, r.wd, r.vl, false, stb, kdb, wdb, vlb, chb, true, n, c0, c1, c2, none, p0, q0, p1, q1, p2, q2, p3, q3, d0, d1, d2, d3⟩) b hLn hWn (b.o0) (b.o1) (b.o2) (trivial) (hi := by show 2 * i + 1 + 1 ≤ 10000; omega)).mono (by show 2 * i + 1 + 1 ≤ 2 * (i + 1) + 0; omega) (by show 2 * (i + 1) + 0 ≤ 10000; omega), by show i + 1 + 0 ≤ N; omega, by show i + 1 + 0 ≤ 150; omega, m, h.j, h.bf⟩))
set_option maxHeartbeats 4000000 in
theorem t1r3s4 (h : LInv R N 1 x) (hin : x.i < N) (hi : x.i < 150) {r : RR} {ep nx sn fl tm : Int} {l : List Int} (hc : x.z.c3 = some ⟨ep, nx, sn, fl, tm, (some l)⟩) (hr : rStep R ⟨ep, nx, sn, fl, tm, (some l)⟩ x.z.W x.z.st = r) (e0 : r.k = 4) (J : ∀ p, LJJ p R N cap o x ρ w I) : ∃ p, LK p 3 R N cap o x ρ w I := by
  have F := h.facts hin hi
  obtain ⟨i, ⟨W, st, kd, wd, vl, ch, stb, kdb, wdb, vlb, chb, f, n, c0, c1, c2, c3, p0, q0, p1, q1, p2, q2, p3, q3, d0, d1, d2, d3⟩, now, bm, mm⟩ := x
  dsimp only at hin hi hc hr F
  subst hc
  have b := h.b
  have m := h.m
  obtain ⟨hin1, hi1, ewi, r1, r2, hl, hl16, w0, w1, s0, s1, n0, n1⟩ := F
  have ok : ROk R ⟨ep, nx, sn, fl, tm, (some l)⟩ := b.o3
  have aft := rAft (st := st) ok w0 w1
  have hdec := mr_dec (st := st) (W := W) ok w0 w1
  rw [hr] at aft hdec
  have hLn := hl
  have hLr := hl.symm
  have hWn := b.hw
  have hd1 := hdec (.inr (.inr e0))
  have okn := aft.go (.inr (.inr e0))
  obtain ⟨e4, e3, e1, e2⟩ := aft.fa (.inl e0)
  rw [e2] at okn hd1
  refine ⟨⟨f, c0, c1, false, 3, false, 4, w00, r⟩, ?_⟩
  have hX := hXTl ⟨f, c0, c1, false, 3, false, 4, w00, r⟩
  dsimp only [LK, lkT, llH, wdH]
  refine sx hX [] 4000 rfl (by (simp [-List.getD_eq_getElem?_getD, -List.length_eq_zero_iff, conjP, getH, HE.so, r1, r2, hl, w0, w1, s0, s1, slV, ok, hr, e0])) ?_
  (refine J _ ⟨i + 1, ⟨W, st + 1, 1, r.wd, r.vl, false, stb, kdb, wdb, vlb, chb, true, n, c0, c1, c2, some ⟨ep, r.nx, r.sn, r.fl, r.tm, (some l)⟩, p0, q0, p1, q1, p2, q2, p3, q3, d0, d1, d2, d3⟩, now, bm, mm⟩ ?iv rfl _ _ _ (sub_of [0, 1, 2, 3, 4, 5, 21, 7, 8, 9, 10, 11, 12, 13, 14, 15, 16, 17, 18, 19, 20] rfl rfl rfl rfl ?tt ?hh ?ot ?ok); (case tt => simp only [ewi]; (exact clhA)); (case hh => (exact clhA)); (case ot => (exact clkA)); (case ok => (exact clkA)); (case iv => exact ⟨(BInv.nx (z' := ⟨W, st + 1, 1, r.wd, r.vl, false, stb, kdb, wdb, vlb, chb, true, n, c0, c1, c2, some ⟨ep, r.nx, r.sn, r.fl, r.tm, (some l)⟩, p0, q0, p1, q1, p2, q2, p3, q3, d0, d1, d2, d3⟩) b hLn hWn (b.o0) (b.o1) (b.o2) (okn) (hi := by show 2 * i + 1 + 1 ≤ 10000; omega)).mono (by show 2 * i + 1 + 1 ≤ 2 * (i + 1) + 0; omega) (by show 2 * (i + 1) + 0 ≤ 10000; omega), by show i + 1 + 0 ≤ N; omega, by show i + 1 + 0 ≤ 150; omega, m, h.j, h.bf⟩))
set_option maxHeartbeats 4000000 in
theorem t1r3s5 (h : LInv R N 1 x) (hin : x.i < N) (hi : x.i < 150) {r : RR} {ep nx sn fl tm : Int} {l : List Int} (hc : x.z.c3 = some ⟨ep, nx, sn, fl, tm, (some l)⟩) (hr : rStep R ⟨ep, nx, sn, fl, tm, (some l)⟩ x.z.W x.z.st = r) (e0 : r.k = 5) (J : ∀ p, LJJ p R N cap o x ρ w I) : ∃ p, LK p 3 R N cap o x ρ w I := by
  have F := h.facts hin hi
  obtain ⟨i, ⟨W, st, kd, wd, vl, ch, stb, kdb, wdb, vlb, chb, f, n, c0, c1, c2, c3, p0, q0, p1, q1, p2, q2, p3, q3, d0, d1, d2, d3⟩, now, bm, mm⟩ := x
  dsimp only at hin hi hc hr F
  subst hc
  have b := h.b
  have m := h.m
  obtain ⟨hin1, hi1, ewi, r1, r2, hl, hl16, w0, w1, s0, s1, n0, n1⟩ := F
  have ok : ROk R ⟨ep, nx, sn, fl, tm, (some l)⟩ := b.o3
  have aft := rAft (st := st) ok w0 w1
  have hdec := mr_dec (st := st) (W := W) ok w0 w1
  rw [hr] at aft hdec
  have hLn := hl
  have hLr := hl.symm
  have hWn := b.hw
  refine ⟨⟨f, c0, c1, false, 3, false, 5, w00, r⟩, ?_⟩
  have hX := hXTl ⟨f, c0, c1, false, 3, false, 5, w00, r⟩
  dsimp only [LK, lkT, llH, wdH]
  refine sx hX [] 4000 rfl (by (simp [-List.getD_eq_getElem?_getD, -List.length_eq_zero_iff, conjP, getH, HE.so, r1, r2, hl, w0, w1, s0, s1, slV, ok, hr, e0])) ?_
  (refine J _ ⟨i + 1, ⟨W, st + 1, 1, r.wd, r.vl, false, stb, kdb, wdb, vlb, chb, true, n, c0, c1, c2, none, p0, q0, p1, q1, p2, q2, p3, q3, d0, d1, d2, d3⟩, now, bm, mm⟩ ?iv rfl _ _ _ (sub_of [0, 1, 2, 3, 4, 5, 21, 7, 8, 9, 10, 11, 12, 13, 14, 15, 16, 17, 60, 61, 20] rfl rfl rfl rfl ?tt ?hh ?ot ?ok); (case tt => simp only [ewi]; (exact clhA)); (case hh => (exact clhA)); (case ot => (exact clkA)); (case ok => (exact clkA)); (case iv => exact ⟨(BInv.nx (z' := ⟨W, st + 1, 1, r.wd, r.vl, false, stb, kdb, wdb, vlb, chb, true, n, c0, c1, c2, none, p0, q0, p1, q1, p2, q2, p3, q3, d0, d1, d2, d3⟩) b hLn hWn (b.o0) (b.o1) (b.o2) (trivial) (hi := by show 2 * i + 1 + 1 ≤ 10000; omega)).mono (by show 2 * i + 1 + 1 ≤ 2 * (i + 1) + 0; omega) (by show 2 * (i + 1) + 0 ≤ 10000; omega), by show i + 1 + 0 ≤ N; omega, by show i + 1 + 0 ≤ 150; omega, m, h.j, h.bf⟩))
theorem t1t3 (h : LInv R N 1 x) (hin : x.i < N) (hi : x.i < 150) (hne : x.z.c3 ≠ none) (J : ∀ p, LJJ p R N cap o x ρ w I) : ∃ p, LK p 3 R N cap o x ρ w I := by
  rcases hc : x.z.c3 with _ | ⟨ep, nx, sn, fl, tm, o'⟩
  · exact absurd hc hne
  · have ok : ROk R ⟨ep, nx, sn, fl, tm, o'⟩ := by have q := h.b.o3; rw [hc] at q; exact q
    rcases o' with _ | l
    · rcases (show nx = 1 ∨ nx = 3 ∨ nx = 4 from ok.nxc) with g | g | g
      · rcases rk1 (R := R) (W := x.z.W) (st := x.z.st) (s := ⟨ep, nx, sn, fl, tm, none⟩) g with e | e
        · exact t1r3n0 h hin hi hc rfl e J
        · exact t1r3n1 h hin hi hc rfl e J
      · exact t1r3n3 h hin hi hc rfl (rk3 g) J
      · exact absurd (show (0 : Nat) = 4 from ok.w4 g) (by decide)
    · rcases (show nx = 1 ∨ nx = 3 ∨ nx = 4 from ok.nxc) with g | g | g
      · rcases rk1 (R := R) (W := x.z.W) (st := x.z.st) (s := ⟨ep, nx, sn, fl, tm, some l⟩) g with e | e
        · exact t1r3s0 h hin hi hc rfl e J
        · exact t1r3s1 h hin hi hc rfl e J
      · exact t1r3s3 h hin hi hc rfl (rk3 g) J
      · rcases rk4 (R := R) (W := x.z.W) (st := x.z.st) (s := ⟨ep, nx, sn, fl, tm, some l⟩) g with e | e | e
        · exact t1r3s2 h hin hi hc rfl e J
        · exact t1r3s4 h hin hi hc rfl e J
        · exact t1r3s5 h hin hi hc rfl e J
end
end Go.Proofs.YtmghcelohnlceaaGreatDoor
