/- SmallLast: client 2 has its turn, in loop 2. -/
import Derived.Test.YtmghcelohnlceaaGreatDoorLastHead
namespace Go.Proofs.YtmghcelohnlceaaGreatDoor
open Go Go.Hx
set_option maxRecDepth 8000
section
variable {bb : Bool} {R : Int} {N : Nat} {o : Nat → Int × Int} {bm : Bool} {mm : List Int} {x : L2} {ρ : Nat → Nat × Nat} {w : World} {I : Act → World → Prop}
abbrev MJ2 (p : TP) (bb : Bool) (R : Int) (N : Nat) (o : Nat → Int × Int) (bm : Bool) (mm : List Int) (x : L2) (ρ : Nat → Nat × Nat) (w : World) (I : Act → World → Prop) : Prop :=
  ∀ x', L2Inv R mm x' → x'.j = x.j + 1 → ∀ cs T H, Sub (FEnv Tryz.prog (XTl p).TE (hXTl p).te Tryz.f6 Tryz.f6.ntmps [scE bb N o, pinE RTV] (Is .tt [scE bb N o, pinE RTV]) ρ w) T H (l2T bm mm x') (l2H bb N o R bm mm x') →
    SS (hXTl p) (At ρ w) (Is .tt [scE bb N o, pinE RTV]) ⟨cs, [], Tryz.f6, Tryz.f6.ntmps, [scE bb N o, pinE RTV], downLp (contF Tryz.f6 19 [I]), T, H⟩
abbrev MG2 (p : TP) (bb : Bool) (R : Int) (N : Nat) (o : Nat → Int × Int) (bm : Bool) (mm : List Int) (x : L2) (ρ : Nat → Nat × Nat) (w : World) (I : Act → World → Prop) : Prop :=
  SS (hXTl p) (At ρ w) (Is .tt [scE bb N o, pinE RTV]) ⟨[], [], Tryz.f6, Tryz.f6.ntmps, [scE bb N o, pinE RTV], contF Tryz.f6 19 [I], l2T bm mm x, l2H bb N o R bm mm x⟩

set_option maxHeartbeats 4000000 in
theorem t2r2n0 (h : L2Inv R mm x) (h0 : 200 ≤ x.j) (h1 : x.j < 300) {r : RR} {ep nx sn fl tm : Int} (hc : x.z.c2 = some ⟨ep, nx, sn, fl, tm, none⟩) (hr : rStep R ⟨ep, nx, sn, fl, tm, none⟩ x.z.W x.z.st = r) (e0 : r.k = 0) (J : ∀ p, MJ2 p bb R N o bm mm x ρ w I) : ∃ p, MG2 p bb R N o bm mm x ρ w I := by
  have F := h.facts (K := 2) h0 h1
  obtain ⟨j, ⟨W, st, kd, wd, vl, ch, stb, kdb, wdb, vlb, chb, f, n, c0, c1, c2, c3, p0, q0, p1, q1, p2, q2, p3, q3, d0, d1, d2, d3⟩, now⟩ := x
  dsimp only at h0 h1 hc hr F
  subst hc
  have b := h.b
  have m := h.m
  obtain ⟨hj1, ewj, hq, r1, r2, hl, hl16, w0, w1, s0, s1⟩ := F
  have ok : ROk R ⟨ep, nx, sn, fl, tm, none⟩ := b.o2
  have aft := rAft (st := st) ok w0 w1
  have hdec := mr_dec (st := st) (W := W) ok w0 w1
  rw [hr] at aft hdec
  have hLn := hl
  have hLr := hl.symm
  have hWn := b.hw
  have hd1 := hdec (.inl e0)
  have okn := aft.go (.inl e0)
  obtain ⟨e4, e3, e2, e1, _⟩ := aft.lk e0
  rw [e3] at okn hd1
  refine ⟨⟨f, c0, c1, false, 2, false, 0, w00, r⟩, ?_⟩
  have hX := hXTl ⟨f, c0, c1, false, 2, false, 0, w00, r⟩
  dsimp only [MG2, l2T, l2H, wdH]
  refine sxb hX [.r 21] [] 4000 rfl (by first | exact trivial | simp [conjP]) ?_
  refine sxb hX [.r 21] [.T] 4000 rfl (by simp [conjP, addOP, hj1]) ?_
  refine sx hX [] 3 rfl (by simp [conjP]) ?_
  simp only [hq]
  refine sx hX [] 4000 rfl (by (simp [-List.getD_eq_getElem?_getD, -List.length_eq_zero_iff, conjP, getH, HE.so, r1, r2, hl, w0, w1, s0, s1, slV, ok, hr, e0])) ?_
  (refine J _ ⟨j + 1, ⟨W, st + 1, 1, r.wd, r.vl, false, stb, kdb, wdb, vlb, chb, true, n, c0, c1, some ⟨ep, r.nx, r.sn, r.fl, r.tm, none⟩, c3, p0, q0, p1, q1, p2, q2, p3, q3, d0, d1, d2, d3⟩, now⟩ ?iv rfl _ _ _ (sub_of [0, 1, 2, 3, 4, 5, 21, 7, 8, 9, 10, 11, 12, 13, 14, 15, 16, 61, 18, 19, 20] rfl rfl rfl (by cases bb <;> cases bm <;> rfl) ?tt ?hh ?ot ?ok); (case tt => simp only [ewj]; (exact clhA)); (case hh => (exact clhA)); (case ot => (exact clkA)); (case ok => (exact clkA)); (case iv => exact L2Inv.s2 h h0 h1 ⟨W, st + 1, 1, r.wd, r.vl, false, stb, kdb, wdb, vlb, chb, true, n, c0, c1, some ⟨ep, r.nx, r.sn, r.fl, r.tm, none⟩, c3, p0, q0, p1, q1, p2, q2, p3, q3, d0, d1, d2, d3⟩ _ (BInv.nx (z' := ⟨W, st + 1, 1, r.wd, r.vl, false, stb, kdb, wdb, vlb, chb, true, n, c0, c1, some ⟨ep, r.nx, r.sn, r.fl, r.tm, none⟩, c3, p0, q0, p1, q1, p2, q2, p3, q3, d0, d1, d2, d3⟩) b hLn hWn (b.o0) (b.o1) (okn) (b.o3) (hi := by show 301 + j + 1 ≤ 10000; omega)) (m) (h.j) rfl rfl (fun s hs => by have q := h.q2 h0 _ rfl; cases hs; have hd1 : muR R ⟨ep, r.nx, r.sn, r.fl, r.tm, none⟩ W + 1 ≤ muR R ⟨ep, nx, sn, fl, tm, none⟩ W := hd1; dsimp only at q ⊢; omega) rfl))
set_option maxHeartbeats 4000000 in
theorem t2r2n1 (h : L2Inv R mm x) (h0 : 200 ≤ x.j) (h1 : x.j < 300) {r : RR} {ep nx sn fl tm : Int} (hc : x.z.c2 = some ⟨ep, nx, sn, fl, tm, none⟩) (hr : rStep R ⟨ep, nx, sn, fl, tm, none⟩ x.z.W x.z.st = r) (e0 : r.k = 1) (J : ∀ p, MJ2 p bb R N o bm mm x ρ w I) : ∃ p, MG2 p bb R N o bm mm x ρ w I := by
  have F := h.facts (K := 2) h0 h1
  obtain ⟨j, ⟨W, st, kd, wd, vl, ch, stb, kdb, wdb, vlb, chb, f, n, c0, c1, c2, c3, p0, q0, p1, q1, p2, q2, p3, q3, d0, d1, d2, d3⟩, now⟩ := x
  dsimp only at h0 h1 hc hr F
  subst hc
  have b := h.b
  have m := h.m
  obtain ⟨hj1, ewj, hq, r1, r2, hl, hl16, w0, w1, s0, s1⟩ := F
  have ok : ROk R ⟨ep, nx, sn, fl, tm, none⟩ := b.o2
  have aft := rAft (st := st) ok w0 w1
  have hdec := mr_dec (st := st) (W := W) ok w0 w1
  rw [hr] at aft hdec
  have hLn := hl
  have hLr := hl.symm
  have hWn := b.hw
  refine ⟨⟨f, c0, c1, false, 2, false, 1, w00, r⟩, ?_⟩
  have hX := hXTl ⟨f, c0, c1, false, 2, false, 1, w00, r⟩
  dsimp only [MG2, l2T, l2H, wdH]
  refine sxb hX [.r 21] [] 4000 rfl (by first | exact trivial | simp [conjP]) ?_
  refine sxb hX [.r 21] [.T] 4000 rfl (by simp [conjP, addOP, hj1]) ?_
  refine sx hX [] 3 rfl (by simp [conjP]) ?_
  simp only [hq]
  refine sx hX [] 4000 rfl (by (simp [-List.getD_eq_getElem?_getD, -List.length_eq_zero_iff, conjP, getH, HE.so, r1, r2, hl, w0, w1, s0, s1, slV, ok, hr, e0])) ?_
  (refine J _ ⟨j + 1, ⟨W, st + 1, 1, r.wd, r.vl, false, stb, kdb, wdb, vlb, chb, true, n, c0, c1, none, c3, p0, q0, p1, q1, p2, q2, p3, q3, d0, d1, d2, d3⟩, now⟩ ?iv rfl _ _ _ (sub_of [0, 1, 2, 3, 4, 5, 21, 7, 8, 9, 10, 11, 12, 13, 14, 15, 60, 61, 18, 19, 20] rfl rfl rfl (by cases bb <;> cases bm <;> rfl) ?tt ?hh ?ot ?ok); (case tt => simp only [ewj]; (exact clhA)); (case hh => (exact clhA)); (case ot => (exact clkA)); (case ok => (exact clkA)); (case iv => exact L2Inv.s2 h h0 h1 ⟨W, st + 1, 1, r.wd, r.vl, false, stb, kdb, wdb, vlb, chb, true, n, c0, c1, none, c3, p0, q0, p1, q1, p2, q2, p3, q3, d0, d1, d2, d3⟩ _ (BInv.nx (z' := ⟨W, st + 1, 1, r.wd, r.vl, false, stb, kdb, wdb, vlb, chb, true, n, c0, c1, none, c3, p0, q0, p1, q1, p2, q2, p3, q3, d0, d1, d2, d3⟩) b hLn hWn (b.o0) (b.o1) (trivial) (b.o3) (hi := by show 301 + j + 1 ≤ 10000; omega)) (m) (h.j) rfl rfl (fun s hs => by cases hs) rfl))
set_option maxHeartbeats 4000000 in
theorem t2r2n3 (h : L2Inv R mm x) (h0 : 200 ≤ x.j) (h1 : x.j < 300) {r : RR} {ep nx sn fl tm : Int} (hc : x.z.c2 = some ⟨ep, nx, sn, fl, tm, none⟩) (hr : rStep R ⟨ep, nx, sn, fl, tm, none⟩ x.z.W x.z.st = r) (e0 : r.k = 3) (J : ∀ p, MJ2 p bb R N o bm mm x ρ w I) : ∃ p, MG2 p bb R N o bm mm x ρ w I := by
  have F := h.facts (K := 2) h0 h1
  obtain ⟨j, ⟨W, st, kd, wd, vl, ch, stb, kdb, wdb, vlb, chb, f, n, c0, c1, c2, c3, p0, q0, p1, q1, p2, q2, p3, q3, d0, d1, d2, d3⟩, now⟩ := x
  dsimp only at h0 h1 hc hr F
  subst hc
  have b := h.b
  have m := h.m
  obtain ⟨hj1, ewj, hq, r1, r2, hl, hl16, w0, w1, s0, s1⟩ := F
  have ok : ROk R ⟨ep, nx, sn, fl, tm, none⟩ := b.o2
  have aft := rAft (st := st) ok w0 w1
  have hdec := mr_dec (st := st) (W := W) ok w0 w1
  rw [hr] at aft hdec
  have hLn := hl
  have hLr := hl.symm
  have hWn := b.hw
  have hd1 := hdec (.inr (.inl e0))
  have okn := aft.go (.inr (.inl e0))
  obtain ⟨e4, e2, e1, _, _, e3, _⟩ := aft.wd e0
  rw [e3] at okn hd1
  refine ⟨⟨f, c0, c1, false, 2, false, 3, w00, r⟩, ?_⟩
  have hX := hXTl ⟨f, c0, c1, false, 2, false, 3, w00, r⟩
  dsimp only [MG2, l2T, l2H, wdH]
  refine sxb hX [.r 21] [] 4000 rfl (by first | exact trivial | simp [conjP]) ?_
  refine sxb hX [.r 21] [.T] 4000 rfl (by simp [conjP, addOP, hj1]) ?_
  refine sx hX [] 3 rfl (by simp [conjP]) ?_
  simp only [hq]
  refine sx hX [] 4000 rfl (by (simp [-List.getD_eq_getElem?_getD, -List.length_eq_zero_iff, conjP, getH, HE.so, r1, r2, hl, w0, w1, s0, s1, slV, ok, hr, e0])) ?_
  (refine J _ ⟨j + 1, ⟨W, st + 1, 1, r.wd, r.vl, false, stb, kdb, wdb, vlb, chb, true, n, c0, c1, some ⟨ep, r.nx, r.sn, r.fl, r.tm, (some [r.vl])⟩, c3, p0, q0, p1, q1, p2, q2, p3, q3, d0, d1, d2, d3⟩, now⟩ ?iv rfl _ _ _ (sub_of [0, 1, 2, 3, 4, 5, 22, 7, 8, 9, 10, 11, 12, 13, 14, 15, 16, 21, 18, 19, 20] rfl rfl rfl (by cases bb <;> cases bm <;> rfl) ?tt ?hh ?ot ?ok); (case tt => simp only [ewj]; (exact clhA)); (case hh => (exact clhA)); (case ot => (exact clkA)); (case ok => (exact clkA)); (case iv => exact L2Inv.s2 h h0 h1 ⟨W, st + 1, 1, r.wd, r.vl, false, stb, kdb, wdb, vlb, chb, true, n, c0, c1, some ⟨ep, r.nx, r.sn, r.fl, r.tm, (some [r.vl])⟩, c3, p0, q0, p1, q1, p2, q2, p3, q3, d0, d1, d2, d3⟩ _ (BInv.nx (z' := ⟨W, st + 1, 1, r.wd, r.vl, false, stb, kdb, wdb, vlb, chb, true, n, c0, c1, some ⟨ep, r.nx, r.sn, r.fl, r.tm, (some [r.vl])⟩, c3, p0, q0, p1, q1, p2, q2, p3, q3, d0, d1, d2, d3⟩) b hLn hWn (b.o0) (b.o1) (okn) (b.o3) (hi := by show 301 + j + 1 ≤ 10000; omega)) (m) (h.j) rfl rfl (fun s hs => by have q := h.q2 h0 _ rfl; cases hs; have hd1 : muR R ⟨ep, r.nx, r.sn, r.fl, r.tm, (some [r.vl])⟩ W + 1 ≤ muR R ⟨ep, nx, sn, fl, tm, none⟩ W := hd1; dsimp only at q ⊢; omega) rfl))
set_option maxHeartbeats 4000000 in
theorem t2r2s0 (h : L2Inv R mm x) (h0 : 200 ≤ x.j) (h1 : x.j < 300) {r : RR} {ep nx sn fl tm : Int} {l : List Int} (hc : x.z.c2 = some ⟨ep, nx, sn, fl, tm, (some l)⟩) (hr : rStep R ⟨ep, nx, sn, fl, tm, (some l)⟩ x.z.W x.z.st = r) (e0 : r.k = 0) (J : ∀ p, MJ2 p bb R N o bm mm x ρ w I) : ∃ p, MG2 p bb R N o bm mm x ρ w I := by
  have F := h.facts (K := 2) h0 h1
  obtain ⟨j, ⟨W, st, kd, wd, vl, ch, stb, kdb, wdb, vlb, chb, f, n, c0, c1, c2, c3, p0, q0, p1, q1, p2, q2, p3, q3, d0, d1, d2, d3⟩, now⟩ := x
  dsimp only at h0 h1 hc hr F
  subst hc
  have b := h.b
  have m := h.m
  obtain ⟨hj1, ewj, hq, r1, r2, hl, hl16, w0, w1, s0, s1⟩ := F
  have ok : ROk R ⟨ep, nx, sn, fl, tm, (some l)⟩ := b.o2
  have aft := rAft (st := st) ok w0 w1
  have hdec := mr_dec (st := st) (W := W) ok w0 w1
  rw [hr] at aft hdec
  have hLn := hl
  have hLr := hl.symm
  have hWn := b.hw
  have hd1 := hdec (.inl e0)
  have okn := aft.go (.inl e0)
  obtain ⟨e4, e3, e2, e1, _⟩ := aft.lk e0
  rw [e3] at okn hd1
  refine ⟨⟨f, c0, c1, false, 2, false, 0, w00, r⟩, ?_⟩
  have hX := hXTl ⟨f, c0, c1, false, 2, false, 0, w00, r⟩
  dsimp only [MG2, l2T, l2H, wdH]
  refine sxb hX [.r 21] [] 4000 rfl (by first | exact trivial | simp [conjP]) ?_
  refine sxb hX [.r 21] [.T] 4000 rfl (by simp [conjP, addOP, hj1]) ?_
  refine sx hX [] 3 rfl (by simp [conjP]) ?_
  simp only [hq]
  refine sx hX [] 4000 rfl (by (simp [-List.getD_eq_getElem?_getD, -List.length_eq_zero_iff, conjP, getH, HE.so, r1, r2, hl, w0, w1, s0, s1, slV, ok, hr, e0])) ?_
  (refine J _ ⟨j + 1, ⟨W, st + 1, 1, r.wd, r.vl, false, stb, kdb, wdb, vlb, chb, true, n, c0, c1, some ⟨ep, r.nx, r.sn, r.fl, r.tm, none⟩, c3, p0, q0, p1, q1, p2, q2, p3, q3, d0, d1, d2, d3⟩, now⟩ ?iv rfl _ _ _ (sub_of [0, 1, 2, 3, 4, 5, 21, 7, 8, 9, 10, 11, 12, 13, 14, 15, 16, 61, 18, 19, 20] rfl rfl rfl (by cases bb <;> cases bm <;> rfl) ?tt ?hh ?ot ?ok); (case tt => simp only [ewj]; (exact clhA)); (case hh => (exact clhA)); (case ot => (exact clkA)); (case ok => (exact clkA)); (case iv => exact L2Inv.s2 h h0 h1 ⟨W, st + 1, 1, r.wd, r.vl, false, stb, kdb, wdb, vlb, chb, true, n, c0, c1, some ⟨ep, r.nx, r.sn, r.fl, r.tm, none⟩, c3, p0, q0, p1, q1, p2, q2, p3, q3, d0, d1, d2, d3⟩ _ (BInv.nx (z' := ⟨W, st + 1, 1, r.wd, r.vl, false, stb, kdb, wdb, vlb, chb, true, n, c0, c1, some ⟨ep, r.nx, r.sn, r.fl, r.tm, none⟩, c3, p0, q0, p1, q1, p2, q2, p3, q3, d0, d1, d2, d3⟩) b hLn hWn (b.o0) (b.o1) (okn) (b.o3) (hi := by show 301 + j + 1 ≤ 10000; omega)) (m) (h.j) rfl rfl (fun s hs => by have q := h.q2 h0 _ rfl; cases hs; have hd1 : muR R ⟨ep, r.nx, r.sn, r.fl, r.tm, none⟩ W + 1 ≤ muR R ⟨ep, nx, sn, fl, tm, (some l)⟩ W := hd1; dsimp only at q ⊢; omega) rfl))
set_option maxHeartbeats 4000000 in
theorem t2r2s1 (h : L2Inv R mm x) (h0 : 200 ≤ x.j) (h1 : x.j < 300) {r : RR} {ep nx sn fl tm : Int} {l : List Int} (hc : x.z.c2 = some ⟨ep, nx, sn, fl, tm, (some l)⟩) (hr : rStep R ⟨ep, nx, sn, fl, tm, (some l)⟩ x.z.W x.z.st = r) (e0 : r.k = 1) (J : ∀ p, MJ2 p bb R N o bm mm x ρ w I) : ∃ p, MG2 p bb R N o bm mm x ρ w I := by
  have F := h.facts (K := 2) h0 h1
  obtain ⟨j, ⟨W, st, kd, wd, vl, ch, stb, kdb, wdb, vlb, chb, f, n, c0, c1, c2, c3, p0, q0, p1, q1, p2, q2, p3, q3, d0, d1, d2, d3⟩, now⟩ := x
  dsimp only at h0 h1 hc hr F
  subst hc
  have b := h.b
  have m := h.m
  obtain ⟨hj1, ewj, hq, r1, r2, hl, hl16, w0, w1, s0, s1⟩ := F
  have ok : ROk R ⟨ep, nx, sn, fl, tm, (some l)⟩ := b.o2
  have aft := rAft (st := st) ok w0 w1
  have hdec := mr_dec (st := st) (W := W) ok w0 w1
  rw [hr] at aft hdec
  have hLn := hl
  have hLr := hl.symm
  have hWn := b.hw
  refine ⟨⟨f, c0, c1, false, 2, false, 1, w00, r⟩, ?_⟩
  have hX := hXTl ⟨f, c0, c1, false, 2, false, 1, w00, r⟩
  dsimp only [MG2, l2T, l2H, wdH]
  refine sxb hX [.r 21] [] 4000 rfl (by first | exact trivial | simp [conjP]) ?_
  refine sxb hX [.r 21] [.T] 4000 rfl (by simp [conjP, addOP, hj1]) ?_
  refine sx hX [] 3 rfl (by simp [conjP]) ?_
  simp only [hq]
  refine sx hX [] 4000 rfl (by (simp [-List.getD_eq_getElem?_getD, -List.length_eq_zero_iff, conjP, getH, HE.so, r1, r2, hl, w0, w1, s0, s1, slV, ok, hr, e0])) ?_
  (refine J _ ⟨j + 1, ⟨W, st + 1, 1, r.wd, r.vl, false, stb, kdb, wdb, vlb, chb, true, n, c0, c1, none, c3, p0, q0, p1, q1, p2, q2, p3, q3, d0, d1, d2, d3⟩, now⟩ ?iv rfl _ _ _ (sub_of [0, 1, 2, 3, 4, 5, 21, 7, 8, 9, 10, 11, 12, 13, 14, 15, 60, 61, 18, 19, 20] rfl rfl rfl (by cases bb <;> cases bm <;> rfl) ?tt ?hh ?ot ?ok); (case tt => simp only [ewj]; (exact clhA)); (case hh => (exact clhA)); (case ot => (exact clkA)); (case ok => (exact clkA)); (case iv => exact L2Inv.s2 h h0 h1 ⟨W, st + 1, 1, r.wd, r.vl, false, stb, kdb, wdb, vlb, chb, true, n, c0, c1, none, c3, p0, q0, p1, q1, p2, q2, p3, q3, d0, d1, d2, d3⟩ _ (BInv.nx (z' := ⟨W, st + 1, 1, r.wd, r.vl, false, stb, kdb, wdb, vlb, chb, true, n, c0, c1, none, c3, p0, q0, p1, q1, p2, q2, p3, q3, d0, d1, d2, d3⟩) b hLn hWn (b.o0) (b.o1) (trivial) (b.o3) (hi := by show 301 + j + 1 ≤ 10000; omega)) (m) (h.j) rfl rfl (fun s hs => by cases hs) rfl))
set_option maxHeartbeats 4000000 in
theorem t2r2s3 (h : L2Inv R mm x) (h0 : 200 ≤ x.j) (h1 : x.j < 300) {r : RR} {ep nx sn fl tm : Int} {l : List Int} (hc : x.z.c2 = some ⟨ep, nx, sn, fl, tm, (some l)⟩) (hr : rStep R ⟨ep, nx, sn, fl, tm, (some l)⟩ x.z.W x.z.st = r) (e0 : r.k = 3) (J : ∀ p, MJ2 p bb R N o bm mm x ρ w I) : ∃ p, MG2 p bb R N o bm mm x ρ w I := by
  have F := h.facts (K := 2) h0 h1
  obtain ⟨j, ⟨W, st, kd, wd, vl, ch, stb, kdb, wdb, vlb, chb, f, n, c0, c1, c2, c3, p0, q0, p1, q1, p2, q2, p3, q3, d0, d1, d2, d3⟩, now⟩ := x
  dsimp only at h0 h1 hc hr F
  subst hc
  have b := h.b
  have m := h.m
  obtain ⟨hj1, ewj, hq, r1, r2, hl, hl16, w0, w1, s0, s1⟩ := F
  have ok : ROk R ⟨ep, nx, sn, fl, tm, (some l)⟩ := b.o2
  have aft := rAft (st := st) ok w0 w1
  have hdec := mr_dec (st := st) (W := W) ok w0 w1
  rw [hr] at aft hdec
  have hLn := hl
  have hLr := hl.symm
  have hWn := b.hw
  have hwl : (l ++ [r.vl]).length = l.length + 1 := by simp
  have hwr := hwl.symm
  have hd1 := hdec (.inr (.inl e0))
  have okn := aft.go (.inr (.inl e0))
  obtain ⟨e4, e2, e1, _, _, e3, _⟩ := aft.wd e0
  rw [e3] at okn hd1
  refine ⟨⟨f, c0, c1, false, 2, false, 3, w00, r⟩, ?_⟩
  have hX := hXTl ⟨f, c0, c1, false, 2, false, 3, w00, r⟩
  dsimp only [MG2, l2T, l2H, wdH]
  refine sxb hX [.r 21] [] 4000 rfl (by first | exact trivial | simp [conjP]) ?_
  refine sxb hX [.r 21] [.T] 4000 rfl (by simp [conjP, addOP, hj1]) ?_
  refine sx hX [] 3 rfl (by simp [conjP]) ?_
  simp only [hq]
  refine sx hX [] 4000 rfl (by (simp [-List.getD_eq_getElem?_getD, -List.length_eq_zero_iff, conjP, getH, HE.so, r1, r2, hl, w0, w1, s0, s1, slV, ok, hr, e0])) ?_
  (refine J _ ⟨j + 1, ⟨W, st + 1, 1, r.wd, r.vl, false, stb, kdb, wdb, vlb, chb, true, n, c0, c1, some ⟨ep, r.nx, r.sn, r.fl, r.tm, (some (l ++ [r.vl]))⟩, c3, p0, q0, p1, q1, p2, q2, p3, q3, d0, d1, d2, d3⟩, now⟩ ?iv rfl _ _ _ (sub_of [0, 1, 2, 3, 4, 5, 22, 7, 8, 9, 10, 11, 12, 13, 14, 15, 16, 21, 18, 19, 20] rfl rfl rfl (by cases bb <;> cases bm <;> rfl) ?tt ?hh ?ot ?ok); (case tt => simp only [ewj]; (exact clhA)); (case hh => (exact clhA)); (case ot => (exact clkA)); (case ok => (exact clkA)); (case iv => exact L2Inv.s2 h h0 h1 ⟨W, st + 1, 1, r.wd, r.vl, false, stb, kdb, wdb, vlb, chb, true, n, c0, c1, some ⟨ep, r.nx, r.sn, r.fl, r.tm, (some (l ++ [r.vl]))⟩, c3, p0, q0, p1, q1, p2, q2, p3, q3, d0, d1, d2, d3⟩ _ (BInv.nx (z' := ⟨W, st + 1, 1, r.wd, r.vl, false, stb, kdb, wdb, vlb, chb, true, n, c0, c1, some ⟨ep, r.nx, r.sn, r.fl, r.tm, (some (l ++ [r.vl]))⟩, c3, p0, q0, p1, q1, p2, q2, p3, q3, d0, d1, d2, d3⟩) b hLn hWn (b.o0) (b.o1) (okn) (b.o3) (hi := by show 301 + j + 1 ≤ 10000; omega)) (m) (h.j) rfl rfl (fun s hs => by have q := h.q2 h0 _ rfl; cases hs; have hd1 : muR R ⟨ep, r.nx, r.sn, r.fl, r.tm, (some (l ++ [r.vl]))⟩ W + 1 ≤ muR R ⟨ep, nx, sn, fl, tm, (some l)⟩ W := hd1; dsimp only at q ⊢; omega) rfl))
set_option maxHeartbeats 4000000 in
theorem t2r2s2 (h : L2Inv R mm x) (h0 : 200 ≤ x.j) (h1 : x.j < 300) {r : RR} {ep nx sn fl tm : Int} {l : List Int} (hc : x.z.c2 = some ⟨ep, nx, sn, fl, tm, (some l)⟩) (hr : rStep R ⟨ep, nx, sn, fl, tm, (some l)⟩ x.z.W x.z.st = r) (e0 : r.k = 2) (J : ∀ p, MJ2 p bb R N o bm mm x ρ w I) : ∃ p, MG2 p bb R N o bm mm x ρ w I := by
  have F := h.facts (K := 2) h0 h1
  obtain ⟨j, ⟨W, st, kd, wd, vl, ch, stb, kdb, wdb, vlb, chb, f, n, c0, c1, c2, c3, p0, q0, p1, q1, p2, q2, p3, q3, d0, d1, d2, d3⟩, now⟩ := x
  dsimp only at h0 h1 hc hr F
  subst hc
  have b := h.b
  have m := h.m
  obtain ⟨hj1, ewj, hq, r1, r2, hl, hl16, w0, w1, s0, s1⟩ := F
  have ok : ROk R ⟨ep, nx, sn, fl, tm, (some l)⟩ := b.o2
  have aft := rAft (st := st) ok w0 w1
  have hdec := mr_dec (st := st) (W := W) ok w0 w1
  rw [hr] at aft hdec
  have hLn := hl
  have hLr := hl.symm
  have hWn := b.hw
  refine ⟨⟨f, c0, c1, false, 2, false, 2, w00, r⟩, ?_⟩
  have hX := hXTl ⟨f, c0, c1, false, 2, false, 2, w00, r⟩
  dsimp only [MG2, l2T, l2H, wdH]
  refine sxb hX [.r 21] [] 4000 rfl (by first | exact trivial | simp [conjP]) ?_
  refine sxb hX [.r 21] [.T] 4000 rfl (by simp [conjP, addOP, hj1]) ?_
  refine sx hX [] 3 rfl (by simp [conjP]) ?_
  simp only [hq]
  refine sx hX [] 4000 rfl (by (simp [-List.getD_eq_getElem?_getD, -List.length_eq_zero_iff, conjP, getH, HE.so, r1, r2, hl, w0, w1, s0, s1, slV, ok, hr, e0])) ?_
  (refine J _ ⟨j + 1, ⟨W, st + 1, 1, r.wd, r.vl, false, stb, kdb, wdb, vlb, chb, true, n, c0, c1, none, c3, p0, q0, p1, q1, p2, q2, p3, q3, d0, d1, d2, d3⟩, now⟩ ?iv rfl _ _ _ (sub_of [0, 1, 2, 3, 4, 5, 21, 7, 8, 9, 10, 11, 12, 13, 14, 15, 60, 61, 18, 19, 20] rfl rfl rfl (by cases bb <;> cases bm <;> rfl) ?tt ?hh ?ot ?ok); (case tt => simp only [ewj]; (exact clhA)); (case hh => (exact clhA)); (case ot => (exact clkA)); (case ok => (exact clkA)); (case iv => exact L2Inv.s2 h h0 h1 ⟨W, st + 1, 1, r.wd, r.vl, false, stb, kdb, wdb, vlb, chb, true, n, c0, c1, none, c3, p0, q0, p1, q1, p2, q2, p3, q3, d0, d1, d2, d3⟩ _ (BInv.nx (z' := ⟨W, st + 1, 1, r.wd, r.vl, false, stb, kdb, wdb, vlb, chb, true, n, c0, c1, none, c3, p0, q0, p1, q1, p2, q2, p3, q3, d0, d1, d2, d3⟩) b hLn hWn (b.o0) (b.o1) (trivial) (b.o3) (hi := by show 301 + j + 1 ≤ 10000; omega)) (m) (h.j) rfl rfl (fun s hs => by cases hs) rfl))
set_option maxHeartbeats 4000000 in
theorem t2r2s4 (h : L2Inv R mm x) (h0 : 200 ≤ x.j) (h1 : x.j < 300) {r : RR} {ep nx sn fl tm : Int} {l : List Int} (hc : x.z.c2 = some ⟨ep, nx, sn, fl, tm, (some l)⟩) (hr : rStep R ⟨ep, nx, sn, fl, tm, (some l)⟩ x.z.W x.z.st = r) (e0 : r.k = 4) (J : ∀ p, MJ2 p bb R N o bm mm x ρ w I) : ∃ p, MG2 p bb R N o bm mm x ρ w I := by
  have F := h.facts (K := 2) h0 h1
  obtain ⟨j, ⟨W, st, kd, wd, vl, ch, stb, kdb, wdb, vlb, chb, f, n, c0, c1, c2, c3, p0, q0, p1, q1, p2, q2, p3, q3, d0, d1, d2, d3⟩, now⟩ := x
  dsimp only at h0 h1 hc hr F
  subst hc
  have b := h.b
  have m := h.m
  obtain ⟨hj1, ewj, hq, r1, r2, hl, hl16, w0, w1, s0, s1⟩ := F
  have ok : ROk R ⟨ep, nx, sn, fl, tm, (some l)⟩ := b.o2
  have aft := rAft (st := st) ok w0 w1
  have hdec := mr_dec (st := st) (W := W) ok w0 w1
  rw [hr] at aft hdec
  have hLn := hl
  have hLr := hl.symm
  have hWn := b.hw
  have hd1 := hdec (.inr (.inr e0))
  have okn := aft.go (.inr (.inr e0))
  obtain ⟨e4, e3, e1, e2⟩ := aft.fa (.inl e0)
  rw [e2] at okn hd1
  refine ⟨⟨f, c0, c1, false, 2, false, 4, w00, r⟩, ?_⟩
  have hX := hXTl ⟨f, c0, c1, false, 2, false, 4, w00, r⟩
  dsimp only [MG2, l2T, l2H, wdH]
  refine sxb hX [.r 21] [] 4000 rfl (by first | exact trivial | simp [conjP]) ?_
  refine sxb hX [.r 21] [.T] 4000 rfl (by simp [conjP, addOP, hj1]) ?_
  refine sx hX [] 3 rfl (by simp [conjP]) ?_
  simp only [hq]
  refine sx hX [] 4000 rfl (by (simp [-List.getD_eq_getElem?_getD, -List.length_eq_zero_iff, conjP, getH, HE.so, r1, r2, hl, w0, w1, s0, s1, slV, ok, hr, e0])) ?_
  (refine J _ ⟨j + 1, ⟨W, st + 1, 1, r.wd, r.vl, false, stb, kdb, wdb, vlb, chb, true, n, c0, c1, some ⟨ep, r.nx, r.sn, r.fl, r.tm, (some l)⟩, c3, p0, q0, p1, q1, p2, q2, p3, q3, d0, d1, d2, d3⟩, now⟩ ?iv rfl _ _ _ (sub_of [0, 1, 2, 3, 4, 5, 21, 7, 8, 9, 10, 11, 12, 13, 14, 15, 16, 17, 18, 19, 20] rfl rfl rfl (by cases bb <;> cases bm <;> rfl) ?tt ?hh ?ot ?ok); (case tt => simp only [ewj]; (exact clhA)); (case hh => (exact clhA)); (case ot => (exact clkA)); (case ok => (exact clkA)); (case iv => exact L2Inv.s2 h h0 h1 ⟨W, st + 1, 1, r.wd, r.vl, false, stb, kdb, wdb, vlb, chb, true, n, c0, c1, some ⟨ep, r.nx, r.sn, r.fl, r.tm, (some l)⟩, c3, p0, q0, p1, q1, p2, q2, p3, q3, d0, d1, d2, d3⟩ _ (BInv.nx (z' := ⟨W, st + 1, 1, r.wd, r.vl, false, stb, kdb, wdb, vlb, chb, true, n, c0, c1, some ⟨ep, r.nx, r.sn, r.fl, r.tm, (some l)⟩, c3, p0, q0, p1, q1, p2, q2, p3, q3, d0, d1, d2, d3⟩) b hLn hWn (b.o0) (b.o1) (okn) (b.o3) (hi := by show 301 + j + 1 ≤ 10000; omega)) (m) (h.j) rfl rfl (fun s hs => by have q := h.q2 h0 _ rfl; cases hs; have hd1 : muR R ⟨ep, r.nx, r.sn, r.fl, r.tm, (some l)⟩ W + 1 ≤ muR R ⟨ep, nx, sn, fl, tm, (some l)⟩ W := hd1; dsimp only at q ⊢; omega) rfl))
set_option maxHeartbeats 4000000 in
theorem t2r2s5 (h : L2Inv R mm x) (h0 : 200 ≤ x.j) (h1 : x.j < 300) {r : RR} {ep nx sn fl tm : Int} {l : List Int} (hc : x.z.c2 = some ⟨ep, nx, sn, fl, tm, (some l)⟩) (hr : rStep R ⟨ep, nx, sn, fl, tm, (some l)⟩ x.z.W x.z.st = r) (e0 : r.k = 5) (J : ∀ p, MJ2 p bb R N o bm mm x ρ w I) : ∃ p, MG2 p bb R N o bm mm x ρ w I := by
  have F := h.facts (K := 2) h0 h1
  obtain ⟨j, ⟨W, st, kd, wd, vl, ch, stb, kdb, wdb, vlb, chb, f, n, c0, c1, c2, c3, p0, q0, p1, q1, p2, q2, p3, q3, d0, d1, d2, d3⟩, now⟩ := x
  dsimp only at h0 h1 hc hr F
  subst hc
  have b := h.b
  have m := h.m
  obtain ⟨hj1, ewj, hq, r1, r2, hl, hl16, w0, w1, s0, s1⟩ := F
  have ok : ROk R ⟨ep, nx, sn, fl, tm, (some l)⟩ := b.o2
  have aft := rAft (st := st) ok w0 w1
  have hdec := mr_dec (st := st) (W := W) ok w0 w1
  rw [hr] at aft hdec
  have hLn := hl
  have hLr := hl.symm
  have hWn := b.hw
  refine ⟨⟨f, c0, c1, false, 2, false, 5, w00, r⟩, ?_⟩
  have hX := hXTl ⟨f, c0, c1, false, 2, false, 5, w00, r⟩
  dsimp only [MG2, l2T, l2H, wdH]
  refine sxb hX [.r 21] [] 4000 rfl (by first | exact trivial | simp [conjP]) ?_
  refine sxb hX [.r 21] [.T] 4000 rfl (by simp [conjP, addOP, hj1]) ?_
  refine sx hX [] 3 rfl (by simp [conjP]) ?_
  simp only [hq]
  refine sx hX [] 4000 rfl (by (simp [-List.getD_eq_getElem?_getD, -List.length_eq_zero_iff, conjP, getH, HE.so, r1, r2, hl, w0, w1, s0, s1, slV, ok, hr, e0])) ?_
  (refine J _ ⟨j + 1, ⟨W, st + 1, 1, r.wd, r.vl, false, stb, kdb, wdb, vlb, chb, true, n, c0, c1, none, c3, p0, q0, p1, q1, p2, q2, p3, q3, d0, d1, d2, d3⟩, now⟩ ?iv rfl _ _ _ (sub_of [0, 1, 2, 3, 4, 5, 21, 7, 8, 9, 10, 11, 12, 13, 14, 15, 60, 61, 18, 19, 20] rfl rfl rfl (by cases bb <;> cases bm <;> rfl) ?tt ?hh ?ot ?ok); (case tt => simp only [ewj]; (exact clhA)); (case hh => (exact clhA)); (case ot => (exact clkA)); (case ok => (exact clkA)); (case iv => exact L2Inv.s2 h h0 h1 ⟨W, st + 1, 1, r.wd, r.vl, false, stb, kdb, wdb, vlb, chb, true, n, c0, c1, none, c3, p0, q0, p1, q1, p2, q2, p3, q3, d0, d1, d2, d3⟩ _ (BInv.nx (z' := ⟨W, st + 1, 1, r.wd, r.vl, false, stb, kdb, wdb, vlb, chb, true, n, c0, c1, none, c3, p0, q0, p1, q1, p2, q2, p3, q3, d0, d1, d2, d3⟩) b hLn hWn (b.o0) (b.o1) (trivial) (b.o3) (hi := by show 301 + j + 1 ≤ 10000; omega)) (m) (h.j) rfl rfl (fun s hs => by cases hs) rfl))
set_option maxHeartbeats 4000000 in
theorem t2n2 (h : L2Inv R mm x) (h0 : 200 ≤ x.j) (h1 : x.j < 300) (hc : x.z.c2 = none) (J : ∀ p, MJ2 p bb R N o bm mm x ρ w I) : ∃ p, MG2 p bb R N o bm mm x ρ w I := by
  have F := h.facts (K := 2) h0 h1
  obtain ⟨j, ⟨W, st, kd, wd, vl, ch, stb, kdb, wdb, vlb, chb, f, n, c0, c1, c2, c3, p0, q0, p1, q1, p2, q2, p3, q3, d0, d1, d2, d3⟩, now⟩ := x
  dsimp only at h0 h1 hc F
  subst hc
  have b := h.b
  have m := h.m
  obtain ⟨hj1, ewj, hq, r1, r2, hl, hl16, w0, w1, s0, s1⟩ := F
  have hLr := hl.symm
  refine ⟨⟨f, c0, c1, false, 2, false, 0, w00, r00⟩, ?_⟩
  have hX := hXTl ⟨f, c0, c1, false, 2, false, 0, w00, r00⟩
  dsimp only [MG2, l2T, l2H, wdH]
  refine sxb hX [.r 21] [] 4000 rfl (by first | exact trivial | simp [conjP]) ?_
  refine sxb hX [.r 21] [.T] 4000 rfl (by simp [conjP, addOP, hj1]) ?_
  refine sx hX [] 3 rfl (by simp [conjP]) ?_
  simp only [hq]
  refine sx hX [] 4000 rfl (by (simp [-List.getD_eq_getElem?_getD, -List.length_eq_zero_iff, conjP, getH, HE.so, hl])) ?_
  (refine J _ ⟨j + 1, ⟨W, st, kd, wd, vl, ch, stb, kdb, wdb, vlb, chb, true, n, c0, c1, none, c3, p0, q0, p1, q1, p2, q2, p3, q3, d0, d1, d2, d3⟩, now⟩ ?iv rfl _ _ _ (sub_of [0, 1, 2, 3, 4, 5, 21, 7, 8, 9, 10, 11, 12, 13, 14, 15, 16, 17, 18, 19, 20] rfl rfl rfl (by cases bb <;> cases bm <;> rfl) ?tt ?hh ?ot ?ok); (case tt => simp only [ewj]; (exact clhA)); (case hh => (exact clhA)); (case ot => (exact clkA)); (case ok => (exact clkA)); (case iv => exact L2Inv.s2 h h0 h1 ⟨W, st, kd, wd, vl, ch, stb, kdb, wdb, vlb, chb, true, n, c0, c1, none, c3, p0, q0, p1, q1, p2, q2, p3, q3, d0, d1, d2, d3⟩ _ (b.mono' (z' := ⟨W, st, kd, wd, vl, ch, stb, kdb, wdb, vlb, chb, true, n, c0, c1, none, c3, p0, q0, p1, q1, p2, q2, p3, q3, d0, d1, d2, d3⟩) rfl rfl rfl rfl rfl rfl rfl rfl (by show 301 + j + 1 ≤ 10000; omega)) (m) (h.j) rfl rfl (fun s hs => by cases hs) rfl))
theorem t2t2 (h : L2Inv R mm x) (h0 : 200 ≤ x.j) (h1 : x.j < 300) (J : ∀ p, MJ2 p bb R N o bm mm x ρ w I) : ∃ p, MG2 p bb R N o bm mm x ρ w I := by
  rcases hc : x.z.c2 with _ | ⟨ep, nx, sn, fl, tm, o'⟩
  · exact t2n2 h h0 h1 hc J
  · have ok : ROk R ⟨ep, nx, sn, fl, tm, o'⟩ := by have q := h.b.o2; rw [hc] at q; exact q
    rcases o' with _ | l
    · rcases (show nx = 1 ∨ nx = 3 ∨ nx = 4 from ok.nxc) with g | g | g
      · rcases rk1 (R := R) (W := x.z.W) (st := x.z.st) (s := ⟨ep, nx, sn, fl, tm, none⟩) g with e | e
        · exact t2r2n0 h h0 h1 hc rfl e J
        · exact t2r2n1 h h0 h1 hc rfl e J
      · exact t2r2n3 h h0 h1 hc rfl (rk3 g) J
      · exact absurd (show (0 : Nat) = 4 from ok.w4 g) (by decide)
    · rcases (show nx = 1 ∨ nx = 3 ∨ nx = 4 from ok.nxc) with g | g | g
      · rcases rk1 (R := R) (W := x.z.W) (st := x.z.st) (s := ⟨ep, nx, sn, fl, tm, some l⟩) g with e | e
        · exact t2r2s0 h h0 h1 hc rfl e J
        · exact t2r2s1 h h0 h1 hc rfl e J
      · exact t2r2s3 h h0 h1 hc rfl (rk3 g) J
      · rcases rk4 (R := R) (W := x.z.W) (st := x.z.st) (s := ⟨ep, nx, sn, fl, tm, some l⟩) g with e | e | e
        · exact t2r2s2 h h0 h1 hc rfl e J
        · exact t2r2s4 h h0 h1 hc rfl e J
        · exact t2r2s5 h h0 h1 hc rfl e J
end
end Go.Proofs.YtmghcelohnlceaaGreatDoor

/- SmallLast: client 3 has its turn, in loop 2. -/
namespace Go.Proofs.YtmghcelohnlceaaGreatDoor
open Go Go.Hx
set_option maxRecDepth 8000
section
variable {bb : Bool} {R : Int} {N : Nat} {o : Nat → Int × Int} {bm : Bool} {mm : List Int} {x : L2} {ρ : Nat → Nat × Nat} {w : World} {I : Act → World → Prop}
abbrev MJ3 (p : TP) (bb : Bool) (R : Int) (N : Nat) (o : Nat → Int × Int) (bm : Bool) (mm : List Int) (x : L2) (ρ : Nat → Nat × Nat) (w : World) (I : Act → World → Prop) : Prop :=
  ∀ x', L2Inv R mm x' → x'.j = x.j + 1 → ∀ cs T H, Sub (FEnv Tryz.prog (XTl p).TE (hXTl p).te Tryz.f6 Tryz.f6.ntmps [scE bb N o, pinE RTV] (Is .tt [scE bb N o, pinE RTV]) ρ w) T H (l2T bm mm x') (l2H bb N o R bm mm x') →
    SS (hXTl p) (At ρ w) (Is .tt [scE bb N o, pinE RTV]) ⟨cs, [], Tryz.f6, Tryz.f6.ntmps, [scE bb N o, pinE RTV], downLp (contF Tryz.f6 19 [I]), T, H⟩
abbrev MG3 (p : TP) (bb : Bool) (R : Int) (N : Nat) (o : Nat → Int × Int) (bm : Bool) (mm : List Int) (x : L2) (ρ : Nat → Nat × Nat) (w : World) (I : Act → World → Prop) : Prop :=
  SS (hXTl p) (At ρ w) (Is .tt [scE bb N o, pinE RTV]) ⟨[], [], Tryz.f6, Tryz.f6.ntmps, [scE bb N o, pinE RTV], contF Tryz.f6 19 [I], l2T bm mm x, l2H bb N o R bm mm x⟩

set_option maxHeartbeats 4000000 in
theorem t2r3n0 (h : L2Inv R mm x) (h0 : 300 ≤ x.j) (h1 : x.j < 400) {r : RR} {ep nx sn fl tm : Int} (hc : x.z.c3 = some ⟨ep, nx, sn, fl, tm, none⟩) (hr : rStep R ⟨ep, nx, sn, fl, tm, none⟩ x.z.W x.z.st = r) (e0 : r.k = 0) (J : ∀ p, MJ3 p bb R N o bm mm x ρ w I) : ∃ p, MG3 p bb R N o bm mm x ρ w I := by
  have F := h.facts (K := 3) h0 h1
  obtain ⟨j, ⟨W, st, kd, wd, vl, ch, stb, kdb, wdb, vlb, chb, f, n, c0, c1, c2, c3, p0, q0, p1, q1, p2, q2, p3, q3, d0, d1, d2, d3⟩, now⟩ := x
  dsimp only at h0 h1 hc hr F
  subst hc
  have b := h.b
  have m := h.m
  obtain ⟨hj1, ewj, hq, r1, r2, hl, hl16, w0, w1, s0, s1⟩ := F
  have ok : ROk R ⟨ep, nx, sn, fl, tm, none⟩ := b.o3
  have aft := rAft (st := st) ok w0 w1
  have hdec := mr_dec (st := st) (W := W) ok w0 w1
  rw [hr] at aft hdec
  have hLn := hl
  have hLr := hl.symm
  have hWn := b.hw
  have hd1 := hdec (.inl e0)
  have okn := aft.go (.inl e0)
  obtain ⟨e4, e3, e2, e1, _⟩ := aft.lk e0
  rw [e3] at okn hd1
  refine ⟨⟨f, c0, c1, false, 3, false, 0, w00, r⟩, ?_⟩
  have hX := hXTl ⟨f, c0, c1, false, 3, false, 0, w00, r⟩
  dsimp only [MG3, l2T, l2H, wdH]
  refine sxb hX [.r 21] [] 4000 rfl (by first | exact trivial | simp [conjP]) ?_
  refine sxb hX [.r 21] [.T] 4000 rfl (by simp [conjP, addOP, hj1]) ?_
  refine sx hX [] 3 rfl (by simp [conjP]) ?_
  simp only [hq]
  refine sx hX [] 4000 rfl (by (simp [-List.getD_eq_getElem?_getD, -List.length_eq_zero_iff, conjP, getH, HE.so, r1, r2, hl, w0, w1, s0, s1, slV, ok, hr, e0])) ?_
  (refine J _ ⟨j + 1, ⟨W, st + 1, 1, r.wd, r.vl, false, stb, kdb, wdb, vlb, chb, true, n, c0, c1, c2, some ⟨ep, r.nx, r.sn, r.fl, r.tm, none⟩, p0, q0, p1, q1, p2, q2, p3, q3, d0, d1, d2, d3⟩, now⟩ ?iv rfl _ _ _ (sub_of [0, 1, 2, 3, 4, 5, 21, 7, 8, 9, 10, 11, 12, 13, 14, 15, 16, 17, 18, 61, 20] rfl rfl rfl (by cases bb <;> cases bm <;> rfl) ?tt ?hh ?ot ?ok); (case tt => simp only [ewj]; (exact clhA)); (case hh => (exact clhA)); (case ot => (exact clkA)); (case ok => (exact clkA)); (case iv => exact L2Inv.s3 h h0 h1 ⟨W, st + 1, 1, r.wd, r.vl, false, stb, kdb, wdb, vlb, chb, true, n, c0, c1, c2, some ⟨ep, r.nx, r.sn, r.fl, r.tm, none⟩, p0, q0, p1, q1, p2, q2, p3, q3, d0, d1, d2, d3⟩ _ (BInv.nx (z' := ⟨W, st + 1, 1, r.wd, r.vl, false, stb, kdb, wdb, vlb, chb, true, n, c0, c1, c2, some ⟨ep, r.nx, r.sn, r.fl, r.tm, none⟩, p0, q0, p1, q1, p2, q2, p3, q3, d0, d1, d2, d3⟩) b hLn hWn (b.o0) (b.o1) (b.o2) (okn) (hi := by show 301 + j + 1 ≤ 10000; omega)) (m) (h.j) rfl rfl rfl (fun s hs => by have q := h.q3 h0 _ rfl; cases hs; have hd1 : muR R ⟨ep, r.nx, r.sn, r.fl, r.tm, none⟩ W + 1 ≤ muR R ⟨ep, nx, sn, fl, tm, none⟩ W := hd1; dsimp only at q ⊢; omega) rfl))
set_option maxHeartbeats 4000000 in
theorem t2r3n1 (h : L2Inv R mm x) (h0 : 300 ≤ x.j) (h1 : x.j < 400) {r : RR} {ep nx sn fl tm : Int} (hc : x.z.c3 = some ⟨ep, nx, sn, fl, tm, none⟩) (hr : rStep R ⟨ep, nx, sn, fl, tm, none⟩ x.z.W x.z.st = r) (e0 : r.k = 1) (J : ∀ p, MJ3 p bb R N o bm mm x ρ w I) : ∃ p, MG3 p bb R N o bm mm x ρ w I := by
  have F := h.facts (K := 3) h0 h1
  obtain ⟨j, ⟨W, st, kd, wd, vl, ch, stb, kdb, wdb, vlb, chb, f, n, c0, c1, c2, c3, p0, q0, p1, q1, p2, q2, p3, q3, d0, d1, d2, d3⟩, now⟩ := x
  dsimp only at h0 h1 hc hr F
  subst hc
  have b := h.b
  have m := h.m
  obtain ⟨hj1, ewj, hq, r1, r2, hl, hl16, w0, w1, s0, s1⟩ := F
  have ok : ROk R ⟨ep, nx, sn, fl, tm, none⟩ := b.o3
  have aft := rAft (st := st) ok w0 w1
  have hdec := mr_dec (st := st) (W := W) ok w0 w1
  rw [hr] at aft hdec
  have hLn := hl
  have hLr := hl.symm
  have hWn := b.hw
  refine ⟨⟨f, c0, c1, false, 3, false, 1, w00, r⟩, ?_⟩
  have hX := hXTl ⟨f, c0, c1, false, 3, false, 1, w00, r⟩
  dsimp only [MG3, l2T, l2H, wdH]
  refine sxb hX [.r 21] [] 4000 rfl (by first | exact trivial | simp [conjP]) ?_
  refine sxb hX [.r 21] [.T] 4000 rfl (by simp [conjP, addOP, hj1]) ?_
  refine sx hX [] 3 rfl (by simp [conjP]) ?_
  simp only [hq]
  refine sx hX [] 4000 rfl (by (simp [-List.getD_eq_getElem?_getD, -List.length_eq_zero_iff, conjP, getH, HE.so, r1, r2, hl, w0, w1, s0, s1, slV, ok, hr, e0])) ?_
  (refine J _ ⟨j + 1, ⟨W, st + 1, 1, r.wd, r.vl, false, stb, kdb, wdb, vlb, chb, true, n, c0, c1, c2, none, p0, q0, p1, q1, p2, q2, p3, q3, d0, d1, d2, d3⟩, now⟩ ?iv rfl _ _ _ (sub_of [0, 1, 2, 3, 4, 5, 21, 7, 8, 9, 10, 11, 12, 13, 14, 15, 16, 17, 60, 61, 20] rfl rfl rfl (by cases bb <;> cases bm <;> rfl) ?tt ?hh ?ot ?ok); (case tt => simp only [ewj]; (exact clhA)); (case hh => (exact clhA)); (case ot => (exact clkA)); (case ok => (exact clkA)); (case iv => exact L2Inv.s3 h h0 h1 ⟨W, st + 1, 1, r.wd, r.vl, false, stb, kdb, wdb, vlb, chb, true, n, c0, c1, c2, none, p0, q0, p1, q1, p2, q2, p3, q3, d0, d1, d2, d3⟩ _ (BInv.nx (z' := ⟨W, st + 1, 1, r.wd, r.vl, false, stb, kdb, wdb, vlb, chb, true, n, c0, c1, c2, none, p0, q0, p1, q1, p2, q2, p3, q3, d0, d1, d2, d3⟩) b hLn hWn (b.o0) (b.o1) (b.o2) (trivial) (hi := by show 301 + j + 1 ≤ 10000; omega)) (m) (h.j) rfl rfl rfl (fun s hs => by cases hs) rfl))
set_option maxHeartbeats 4000000 in
theorem t2r3n3 (h : L2Inv R mm x) (h0 : 300 ≤ x.j) (h1 : x.j < 400) {r : RR} {ep nx sn fl tm : Int} (hc : x.z.c3 = some ⟨ep, nx, sn, fl, tm, none⟩) (hr : rStep R ⟨ep, nx, sn, fl, tm, none⟩ x.z.W x.z.st = r) (e0 : r.k = 3) (J : ∀ p, MJ3 p bb R N o bm mm x ρ w I) : ∃ p, MG3 p bb R N o bm mm x ρ w I := by
  have F := h.facts (K := 3) h0 h1
  obtain ⟨j, ⟨W, st, kd, wd, vl, ch, stb, kdb, wdb, vlb, chb, f, n, c0, c1, c2, c3, p0, q0, p1, q1, p2, q2, p3, q3, d0, d1, d2, d3⟩, now⟩ := x
  dsimp only at h0 h1 hc hr F
  subst hc
  have b := h.b
  have m := h.m
  obtain ⟨hj1, ewj, hq, r1, r2, hl, hl16, w0, w1, s0, s1⟩ := F
  have ok : ROk R ⟨ep, nx, sn, fl, tm, none⟩ := b.o3
  have aft := rAft (st := st) ok w0 w1
  have hdec := mr_dec (st := st) (W := W) ok w0 w1
  rw [hr] at aft hdec
  have hLn := hl
  have hLr := hl.symm
  have hWn := b.hw
  have hd1 := hdec (.inr (.inl e0))
  have okn := aft.go (.inr (.inl e0))
  obtain ⟨e4, e2, e1, _, _, e3, _⟩ := aft.wd e0
  rw [e3] at okn hd1
  refine ⟨⟨f, c0, c1, false, 3, false, 3, w00, r⟩, ?_⟩
  have hX := hXTl ⟨f, c0, c1, false, 3, false, 3, w00, r⟩
  dsimp only [MG3, l2T, l2H, wdH]
  refine sxb hX [.r 21] [] 4000 rfl (by first | exact trivial | simp [conjP]) ?_
  refine sxb hX [.r 21] [.T] 4000 rfl (by simp [conjP, addOP, hj1]) ?_
  refine sx hX [] 3 rfl (by simp [conjP]) ?_
  simp only [hq]
  refine sx hX [] 4000 rfl (by (simp [-List.getD_eq_getElem?_getD, -List.length_eq_zero_iff, conjP, getH, HE.so, r1, r2, hl, w0, w1, s0, s1, slV, ok, hr, e0])) ?_
  (refine J _ ⟨j + 1, ⟨W, st + 1, 1, r.wd, r.vl, false, stb, kdb, wdb, vlb, chb, true, n, c0, c1, c2, some ⟨ep, r.nx, r.sn, r.fl, r.tm, (some [r.vl])⟩, p0, q0, p1, q1, p2, q2, p3, q3, d0, d1, d2, d3⟩, now⟩ ?iv rfl _ _ _ (sub_of [0, 1, 2, 3, 4, 5, 22, 7, 8, 9, 10, 11, 12, 13, 14, 15, 16, 17, 18, 21, 20] rfl rfl rfl (by cases bb <;> cases bm <;> rfl) ?tt ?hh ?ot ?ok); (case tt => simp only [ewj]; (exact clhA)); (case hh => (exact clhA)); (case ot => (exact clkA)); (case ok => (exact clkA)); (case iv => exact L2Inv.s3 h h0 h1 ⟨W, st + 1, 1, r.wd, r.vl, false, stb, kdb, wdb, vlb, chb, true, n, c0, c1, c2, some ⟨ep, r.nx, r.sn, r.fl, r.tm, (some [r.vl])⟩, p0, q0, p1, q1, p2, q2, p3, q3, d0, d1, d2, d3⟩ _ (BInv.nx (z' := ⟨W, st + 1, 1, r.wd, r.vl, false, stb, kdb, wdb, vlb, chb, true, n, c0, c1, c2, some ⟨ep, r.nx, r.sn, r.fl, r.tm, (some [r.vl])⟩, p0, q0, p1, q1, p2, q2, p3, q3, d0, d1, d2, d3⟩) b hLn hWn (b.o0) (b.o1) (b.o2) (okn) (hi := by show 301 + j + 1 ≤ 10000; omega)) (m) (h.j) rfl rfl rfl (fun s hs => by have q := h.q3 h0 _ rfl; cases hs; have hd1 : muR R ⟨ep, r.nx, r.sn, r.fl, r.tm, (some [r.vl])⟩ W + 1 ≤ muR R ⟨ep, nx, sn, fl, tm, none⟩ W := hd1; dsimp only at q ⊢; omega) rfl))
set_option maxHeartbeats 4000000 in
theorem t2r3s0 (h : L2Inv R mm x) (h0 : 300 ≤ x.j) (h1 : x.j < 400) {r : RR} {ep nx sn fl tm : Int} {l : List Int} (hc : x.z.c3 = some ⟨ep, nx, sn, fl, tm, (some l)⟩) (hr : rStep R ⟨ep, nx, sn, fl, tm, (some l)⟩ x.z.W x.z.st = r) (e0 : r.k = 0) (J : ∀ p, MJ3 p bb R N o bm mm x ρ w I) : ∃ p, MG3 p bb R N o bm mm x ρ w I := by
  have F := h.facts (K := 3) h0 h1
  obtain ⟨j, ⟨W, st, kd, wd, vl, ch, stb, kdb, wdb, vlb, chb, f, n, c0, c1, c2, c3, p0, q0, p1, q1, p2, q2, p3, q3, d0, d1, d2, d3⟩, now⟩ := x
  dsimp only at h0 h1 hc hr F
  subst hc
  have b := h.b
  have m := h.m
  obtain ⟨hj1, ewj, hq, r1, r2, hl, hl16, w0, w1, s0, s1⟩ := F
  have ok : ROk R ⟨ep, nx, sn, fl, tm, (some l)⟩ := b.o3
  have aft := rAft (st := st) ok w0 w1
  have hdec := mr_dec (st := st) (W := W) ok w0 w1
  rw [hr] at aft hdec
  have hLn := hl
  have hLr := hl.symm
  have hWn := b.hw
  have hd1 := hdec (.inl e0)
  have okn := aft.go (.inl e0)
  obtain ⟨e4, e3, e2, e1, _⟩ := aft.lk e0
  rw [e3] at okn hd1
  refine ⟨⟨f, c0, c1, false, 3, false, 0, w00, r⟩, ?_⟩
  have hX := hXTl ⟨f, c0, c1, false, 3, false, 0, w00, r⟩
  dsimp only [MG3, l2T, l2H, wdH]
  refine sxb hX [.r 21] [] 4000 rfl (by first | exact trivial | simp [conjP]) ?_
  refine sxb hX [.r 21] [.T] 4000 rfl (by simp [conjP, addOP, hj1]) ?_
  refine sx hX [] 3 rfl (by simp [conjP]) ?_
  simp only [hq]
  refine sx hX [] 4000 rfl (by (simp [-List.getD_eq_getElem?_getD, -List.length_eq_zero_iff, conjP, getH, HE.so, r1, r2, hl, w0, w1, s0, s1, slV, ok, hr, e0])) ?_
  (refine J _ ⟨j + 1, ⟨W, st + 1, 1, r.wd, r.vl, false, stb, kdb, wdb, vlb, chb, true, n, c0, c1, c2, some ⟨ep, r.nx, r.sn, r.fl, r.tm, none⟩, p0, q0, p1, q1, p2, q2, p3, q3, d0, d1, d2, d3⟩, now⟩ ?iv rfl _ _ _ (sub_of [0, 1, 2, 3, 4, 5, 21, 7, 8, 9, 10, 11, 12, 13, 14, 15, 16, 17, 18, 61, 20] rfl rfl rfl (by cases bb <;> cases bm <;> rfl) ?tt ?hh ?ot ?ok); (case tt => simp only [ewj]; (exact clhA)); (case hh => (exact clhA)); (case ot => (exact clkA)); (case ok => (exact clkA)); (case iv => exact L2Inv.s3 h h0 h1 ⟨W, st + 1, 1, r.wd, r.vl, false, stb, kdb, wdb, vlb, chb, true, n, c0, c1, c2, some ⟨ep, r.nx, r.sn, r.fl, r.tm, none⟩, p0, q0, p1, q1, p2, q2, p3, q3, d0, d1, d2, d3⟩ _ (BInv.nx (z' := ⟨W, st + 1, 1, r.wd, r.vl, false, stb, kdb, wdb, vlb, chb, true, n, c0, c1, c2, some ⟨ep, r.nx, r.sn, r.fl, r.tm, none⟩, p0, q0, p1, q1, p2, q2, p3, q3, d0, d1, d2, d3⟩) b hLn hWn (b.o0) (b.o1) (b.o2) (okn) (hi := by show 301 + j + 1 ≤ 10000; omega)) (m) (h.j) rfl rfl rfl (fun s hs => by have q := h.q3 h0 _ rfl; cases hs; have hd1 : muR R ⟨ep, r.nx, r.sn, r.fl, r.tm, none⟩ W + 1 ≤ muR R ⟨ep, nx, sn, fl, tm, (some l)⟩ W := hd1; dsimp only at q ⊢; omega) rfl))
set_option maxHeartbeats 4000000 in
theorem t2r3s1 (h : L2Inv R mm x) (h0 : 300 ≤ x.j) (h1 : x.j < 400) {r : RR} {ep nx sn fl tm : Int} {l : List Int} (hc : x.z.c3 = some ⟨ep, nx, sn, fl, tm, (some l)⟩) (hr : rStep R ⟨ep, nx, sn, fl, tm, (some l)⟩ x.z.W x.z.st = r) (e0 : r.k = 1) (J : ∀ p, MJ3 p bb R N o bm mm x ρ w I) : ∃ p, MG3 p bb R N o bm mm x ρ w I := by
  have F := h.facts (K := 3) h0 h1
  obtain ⟨j, ⟨W, st, kd, wd, vl, ch, stb, kdb, wdb, vlb, chb, f, n, c0, c1, c2, c3, p0, q0, p1, q1, p2, q2, p3, q3, d0, d1, d2, d3⟩, now⟩ := x
  dsimp only at h0 h1 hc hr F
  subst hc
  have b := h.b
  have m := h.m
  obtain ⟨hj1, ewj, hq, r1, r2, hl, hl16, w0, w1, s0, s1⟩ := F
  have ok : ROk R ⟨ep, nx, sn, fl, tm, (some l)⟩ := b.o3
  have aft := rAft (st := st) ok w0 w1
  have hdec := mr_dec (st := st) (W := W) ok w0 w1
  rw [hr] at aft hdec
  have hLn := hl
  have hLr := hl.symm
  have hWn := b.hw
  refine ⟨⟨f, c0, c1, false, 3, false, 1, w00, r⟩, ?_⟩
  have hX := hXTl ⟨f, c0, c1, false, 3, false, 1, w00, r⟩
  dsimp only [MG3, l2T, l2H, wdH]
  refine sxb hX [.r 21] [] 4000 rfl (by first | exact trivial | simp [conjP]) ?_
  refine sxb hX [.r 21] [.T] 4000 rfl (by simp [conjP, addOP, hj1]) ?_
  refine sx hX [] 3 rfl (by simp [conjP]) ?_
  simp only [hq]
  refine sx hX [] 4000 rfl (by (simp [-List.getD_eq_getElem?_getD, -List.length_eq_zero_iff, conjP, getH, HE.so, r1, r2, hl, w0, w1, s0, s1, slV, ok, hr, e0])) ?_
  (refine J _ ⟨j + 1, ⟨W, st + 1, 1, r.wd, r.vl, false, stb, kdb, wdb, vlb, chb, true, n, c0, c1, c2, none, p0, q0, p1, q1, p2, q2, p3, q3, d0, d1, d2, d3⟩, now⟩ ?iv rfl _ _ _ (sub_of [0, 1, 2, 3, 4, 5, 21, 7, 8, 9, 10, 11, 12, 13, 14, 15, 16, 17, 60, 61, 20] rfl rfl rfl (by cases bb <;> cases bm <;> rfl) ?tt ?hh ?ot ?ok); (case tt => simp only [ewj]; (exact clhA)); (case hh => (exact clhA)); (case ot => (exact clkA)); (case ok => (exact clkA)); (case iv => exact L2Inv.s3 h h0 h1 ⟨W, st + 1, 1, r.wd, r.vl, false, stb, kdb, wdb, vlb, chb, true, n, c0, c1, c2, none, p0, q0, p1, q1, p2, q2, p3, q3, d0, d1, d2, d3⟩ _ (BInv.nx (z' := ⟨W, st + 1, 1, r.wd, r.vl, false, stb, kdb, wdb, vlb, chb, true, n, c0, c1, c2, none, p0, q0, p1, q1, p2, q2, p3, q3, d0, d1, d2, d3⟩) b hLn hWn (b.o0) (b.o1) (b.o2) (trivial) (hi := by show 301 + j + 1 ≤ 10000; omega)) (m) (h.j) rfl rfl rfl (fun s hs => by cases hs) rfl))
set_option maxHeartbeats 4000000 in
theorem t2r3s3 (h : L2Inv R mm x) (h0 : 300 ≤ x.j) (h1 : x.j < 400) {r : RR} {ep nx sn fl tm : Int} {l : List Int} (hc : x.z.c3 = some ⟨ep, nx, sn, fl, tm, (some l)⟩) (hr : rStep R ⟨ep, nx, sn, fl, tm, (some l)⟩ x.z.W x.z.st = r) (e0 : r.k = 3) (J : ∀ p, MJ3 p bb R N o bm mm x ρ w I) : ∃ p, MG3 p bb R N o bm mm x ρ w I := by
  have F := h.facts (K := 3) h0 h1
  obtain ⟨j, ⟨W, st, kd, wd, vl, ch, stb, kdb, wdb, vlb, chb, f, n, c0, c1, c2, c3, p0, q0, p1, q1, p2, q2, p3, q3, d0, d1, d2, d3⟩, now⟩ := x
  dsimp only at h0 h1 hc hr F
  subst hc
  have b := h.b
  have m := h.m
  obtain ⟨hj1, ewj, hq, r1, r2, hl, hl16, w0, w1, s0, s1⟩ := F
  have ok : ROk R ⟨ep, nx, sn, fl, tm, (some l)⟩ := b.o3
  have aft := rAft (st := st) ok w0 w1
  have hdec := mr_dec (st := st) (W := W) ok w0 w1
  rw [hr] at aft hdec
  have hLn := hl
  have hLr := hl.symm
  have hWn := b.hw
  have hwl : (l ++ [r.vl]).length = l.length + 1 := by simp
  have hwr := hwl.symm
  have hd1 := hdec (.inr (.inl e0))
  have okn := aft.go (.inr (.inl e0))
  obtain ⟨e4, e2, e1, _, _, e3, _⟩ := aft.wd e0
  rw [e3] at okn hd1
  refine ⟨⟨f, c0, c1, false, 3, false, 3, w00, r⟩, ?_⟩
  have hX := hXTl ⟨f, c0, c1, false, 3, false, 3, w00, r⟩
  dsimp only [MG3, l2T, l2H, wdH]
  refine sxb hX [.r 21] [] 4000 rfl (by first | exact trivial | simp [conjP]) ?_
  refine sxb hX [.r 21] [.T] 4000 rfl (by simp [conjP, addOP, hj1]) ?_
  refine sx hX [] 3 rfl (by simp [conjP]) ?_
  simp only [hq]
  refine sx hX [] 4000 rfl (by (simp [-List.getD_eq_getElem?_getD, -List.length_eq_zero_iff, conjP, getH, HE.so, r1, r2, hl, w0, w1, s0, s1, slV, ok, hr, e0])) ?_
  (refine J _ ⟨j + 1, ⟨W, st + 1, 1, r.wd, r.vl, false, stb, kdb, wdb, vlb, chb, true, n, c0, c1, c2, some ⟨ep, r.nx, r.sn, r.fl, r.tm, (some (l ++ [r.vl]))⟩, p0, q0, p1, q1, p2, q2, p3, q3, d0, d1, d2, d3⟩, now⟩ ?iv rfl _ _ _ (sub_of [0, 1, 2, 3, 4, 5, 22, 7, 8, 9, 10, 11, 12, 13, 14, 15, 16, 17, 18, 21, 20] rfl rfl rfl (by cases bb <;> cases bm <;> rfl) ?tt ?hh ?ot ?ok); (case tt => simp only [ewj]; (exact clhA)); (case hh => (exact clhA)); (case ot => (exact clkA)); (case ok => (exact clkA)); (case iv => exact L2Inv.s3 h h0 h1 ⟨W, st + 1, 1, r.wd, r.vl, false, stb, kdb, wdb, vlb, chb, true, n, c0, c1, c2, some ⟨ep, r.nx, r.sn, r.fl, r.tm, (some (l ++ [r.vl]))⟩, p0, q0, p1, q1, p2, q2, p3, q3, d0, d1, d2, d3⟩ _ (BInv.nx (z' := ⟨W, st + 1, 1, r.wd, r.vl, false, stb, kdb, wdb, vlb, chb, true, n, c0, c1, c2, some ⟨ep, r.nx, r.sn, r.fl, r.tm, (some (l ++ [r.vl]))⟩, p0, q0, p1, q1, p2, q2, p3, q3, d0, d1, d2, d3⟩) b hLn hWn (b.o0) (b.o1) (b.o2) (okn) (hi := by show 301 + j + 1 ≤ 10000; omega)) (m) (h.j) rfl rfl rfl (fun s hs => by have q := h.q3 h0 _ rfl; cases hs; have hd1 : muR R ⟨ep, r.nx, r.sn, r.fl, r.tm, (some (l ++ [r.vl]))⟩ W + 1 ≤ muR R ⟨ep, nx, sn, fl, tm, (some l)⟩ W := hd1; dsimp only at q ⊢; omega) rfl))
set_option maxHeartbeats 4000000 in
theorem t2r3s2 (h : L2Inv R mm x) (h0 : 300 ≤ x.j) (h1 : x.j < 400) {r : RR} {ep nx sn fl tm : Int} {l : List Int} (hc : x.z.c3 = some ⟨ep, nx, sn, fl, tm, (some l)⟩) (hr : rStep R ⟨ep, nx, sn, fl, tm, (some l)⟩ x.z.W x.z.st = r) (e0 : r.k = 2) (J : ∀ p, MJ3 p bb R N o bm mm x ρ w I) : ∃ p, MG3 p bb R N o bm mm x ρ w I := by
  have F := h.facts (K := 3) h0 h1
  obtain ⟨j, ⟨W, st, kd, wd, vl, ch, stb, kdb, wdb, vlb, chb, f, n, c0, c1, c2, c3, p0, q0, p1, q1, p2, q2, p3, q3, d0, d1, d2, d3⟩, now⟩ := x
  dsimp only at h0 h1 hc hr F
  subst hc
  have b := h.b
  have m := h.m
  obtain ⟨hj1, ewj, hq, r1, r2, hl, hl16, w0, w1, s0, s1⟩ := F
  have ok : ROk R ⟨ep, nx, sn, fl, tm, (some l)⟩ := b.o3
  have aft := rAft (st := st) ok w0 w1
  have hdec := mr_dec (st := st) (W := W) ok w0 w1
  rw [hr] at aft hdec
  have hLn := hl
  have hLr := hl.symm
  have hWn := b.hw
  refine ⟨⟨f, c0, c1, false, 3, false, 2, w00, r⟩, ?_⟩
  have hX := hXTl ⟨f, c0, c1, false, 3, false, 2, w00, r⟩
  dsimp only [MG3, l2T, l2H, wdH]
  refine sxb hX [.r 21] [] 4000 rfl (by first | exact trivial | simp [conjP]) ?_
  refine sxb hX [.r 21] [.T] 4000 rfl (by simp [conjP, addOP, hj1]) ?_
  refine sx hX [] 3 rfl (by simp [conjP]) ?_
  simp only [hq]
  refine sx hX [] 4000 rfl (by (simp [-List.getD_eq_getElem?_getD, -List.length_eq_zero_iff, conjP, getH, HE.so, r1, r2, hl, w0, w1, s0, s1, slV, ok, hr, e0])) ?_
  (refine J _ ⟨j + 1, ⟨W, st + 1, 1, r.wd, r.vl, false, stb, kdb, wdb, vlb, chb, true, n, c0, c1, c2, none, p0, q0, p1, q1, p2, q2, p3, q3, d0, d1, d2, d3⟩, now⟩ ?iv rfl _ _ _ (sub_of [0, 1, 2, 3, 4, 5, 21, 7, 8, 9, 10, 11, 12, 13, 14, 15, 16, 17, 60, 61, 20] rfl rfl rfl (by cases bb <;> cases bm <;> rfl) ?tt ?hh ?ot ?ok); (case tt => simp only [ewj]; (exact clhA)); (case hh => (exact clhA)); (case ot => (exact clkA)); (case ok => (exact clkA)); (case iv => exact L2Inv.s3 h h0 h1 ⟨W, st + 1, 1, r.wd, r.vl, false, stb, kdb, wdb, vlb, chb, true, n, c0, c1, c2, none, p0, q0, p1, q1, p2, q2, p3, q3, d0, d1, d2, d3⟩ _ (BInv.nx (z' := ⟨W, st + 1, 1, r.wd, r.vl, false, stb, kdb, wdb, vlb, chb, true, n, c0, c1, c2, none, p0, q0, p1, q1, p2, q2, p3, q3, d0, d1, d2, d3⟩) b hLn hWn (b.o0) (b.o1) (b.o2) (trivial) (hi := by show 301 + j + 1 ≤ 10000; omega)) (m) (h.j) rfl rfl rfl (fun s hs => by cases hs) rfl))
set_option maxHeartbeats 4000000 in
theorem t2r3s4 (h : L2Inv R mm x) (h0 : 300 ≤ x.j) (h1 : x.j < 400) {r : RR} {ep nx sn fl tm : Int} {l : List Int} (hc : x.z.c3 = some ⟨ep, nx, sn, fl, tm, (some l)⟩) (hr : rStep R ⟨ep, nx, sn, fl, tm, (some l)⟩ x.z.W x.z.st = r) (e0 : r.k = 4) (J : ∀ p, MJ3 p bb R N o bm mm x ρ w I) : ∃ p, MG3 p bb R N o bm mm x ρ w I := by
  have F := h.facts (K := 3) h0 h1
  obtain ⟨j, ⟨W, st, kd, wd, vl, ch, stb, kdb, wdb, vlb, chb, f, n, c0, c1, c2, c3, p0, q0, p1, q1, p2, q2, p3, q3, d0, d1, d2, d3⟩, now⟩ := x
  dsimp only at h0 h1 hc hr F
  subst hc
  have b := h.b
  have m := h.m
  obtain ⟨hj1, ewj, hq, r1, r2, hl, hl16, w0, w1, s0, s1⟩ := F
  have ok : ROk R ⟨ep, nx, sn, fl, tm, (some l)⟩ := b.o3
  have aft := rAft (st := st) ok w0 w1
  have hdec := mr_dec (st := st) (W := W) ok w0 w1
  rw [hr] at aft hdec
  have hLn := hl
  have hLr := hl.symm
  have hWn := b.hw
  have hd1 := hdec (.inr (.inr e0))
  have okn := aft.go (.inr (.inr e0))
  obtain ⟨e4, e3, e1, e2⟩ := aft.fa (.inl e0)
  rw [e2] at okn hd1
  refine ⟨⟨f, c0, c1, false, 3, false, 4, w00, r⟩, ?_⟩
  have hX := hXTl ⟨f, c0, c1, false, 3, false, 4, w00, r⟩
  dsimp only [MG3, l2T, l2H, wdH]
  refine sxb hX [.r 21] [] 4000 rfl (by first | exact trivial | simp [conjP]) ?_
  refine sxb hX [.r 21] [.T] 4000 rfl (by simp [conjP, addOP, hj1]) ?_
  refine sx hX [] 3 rfl (by simp [conjP]) ?_
  simp only [hq]
  refine sx hX [] 4000 rfl (by (simp [-List.getD_eq_getElem?_getD, -List.length_eq_zero_iff, conjP, getH, HE.so, r1, r2, hl, w0, w1, s0, s1, slV, ok, hr, e0])) ?_
  (refine J _ ⟨j + 1, ⟨W, st + 1, 1, r.wd, r.vl, false, stb, kdb, wdb, vlb, chb, true, n, c0, c1, c2, some ⟨ep, r.nx, r.sn, r.fl, r.tm, (some l)⟩, p0, q0, p1, q1, p2, q2, p3, q3, d0, d1, d2, d3⟩, now⟩ ?iv rfl _ _ _ (sub_of [0, 1, 2, 3, 4, 5, 21, 7, 8, 9, 10, 11, 12, 13, 14, 15, 16, 17, 18, 19, 20] rfl rfl rfl (by cases bb <;> cases bm <;> rfl) ?tt ?hh ?ot ?ok); (case tt => simp only [ewj]; (exact clhA)); (case hh => (exact clhA)); (case ot => (exact clkA)); (case ok => (exact clkA)); (case iv => exact L2Inv.s3 h h0 h1 ⟨W, st + 1, 1, r.wd, r.vl, false, stb, kdb, wdb, vlb, chb, true, n, c0, c1, c2, some ⟨ep, r.nx, r.sn, r.fl, r.tm, (some l)⟩, p0, q0, p1, q1, p2, q2, p3, q3, d0, d1, d2, d3⟩ _ (BInv.nx (z' := ⟨W, st + 1, 1, r.wd, r.vl, false, stb, kdb, wdb, vlb, chb, true, n, c0, c1, c2, some ⟨ep, r.nx, r.sn, r.fl, r.tm, (some l)⟩, p0, q0, p1, q1, p2, q2, p3, q3, d0, d1, d2, d3⟩) b hLn hWn (b.o0) (b.o1) (b.o2) (okn) (hi := by show 301 + j + 1 ≤ 10000; omega)) (m) (h.j) rfl rfl rfl (fun s hs => by have q := h.q3 h0 _ rfl; cases hs; have hd1 : muR R ⟨ep, r.nx, r.sn, r.fl, r.tm, (some l)⟩ W + 1 ≤ muR R ⟨ep, nx, sn, fl, tm, (some l)⟩ W := hd1; dsimp only at q ⊢; omega) rfl))
set_option maxHeartbeats 4000000 in
theorem t2r3s5 (h : L2Inv R mm x) (h0 : 300 ≤ x.j) (h1 : x.j < 400) {r : RR} {ep nx sn fl tm : Int} {l : List Int} (hc : x.z.c3 = some ⟨ep, nx, sn, fl, tm, (some l)⟩) (hr : rStep R ⟨ep, nx, sn, fl, tm, (some l)⟩ x.z.W x.z.st = r) (e0 : r.k = 5) (J : ∀ p, MJ3 p bb R N o bm mm x ρ w I) : ∃ p, MG3 p bb R N o bm mm x ρ w I := by
  have F := h.facts (K := 3) h0 h1
  obtain ⟨j, ⟨W, st, kd, wd, vl, ch, stb, kdb, wdb, vlb, chb, f, n, c0, c1, c2, c3, p0, q0, p1, q1, p2, q2, p3, q3, d0, d1, d2, d3⟩, now⟩ := x
  dsimp only at h0 h1 hc hr F
  subst hc
  have b := h.b
  have m := h.m
  obtain ⟨hj1, ewj, hq, r1, r2, hl, hl16, w0, w1, s0, s1⟩ := F
  have ok : ROk R ⟨ep, nx, sn, fl, tm, (some l)⟩ := b.o3
  have aft := rAft (st := st) ok w0 w1
  have hdec := mr_dec (st := st) (W := W) ok w0 w1
  rw [hr] at aft hdec
  have hLn := hl
  have hLr := hl.symm
  have hWn := b.hw
  refine ⟨⟨f, c0, c1, false, 3, false, 5, w00, r⟩, ?_⟩
  have hX := hXTl ⟨f, c0, c1, false, 3, false, 5, w00, r⟩
  dsimp only [MG3, l2T, l2H, wdH]
  refine sxb hX [.r 21] [] 4000 rfl (by first | exact trivial | simp [conjP]) ?_
  refine sxb hX [.r 21] [.T] 4000 rfl (by simp [conjP, addOP, hj1]) ?_
  refine sx hX [] 3 rfl (by simp [conjP]) ?_
  simp only [hq]
  refine sx hX [] 4000 rfl (by (simp [-List.getD_eq_getElem?_getD, -List.length_eq_zero_iff, conjP, getH, HE.so, r1, r2, hl, w0, w1, s0, s1, slV, ok, hr, e0])) ?_
  (refine J _ ⟨j + 1, ⟨W, st + 1, 1, r.wd, r.vl, false, stb, kdb, wdb, vlb, chb, true, n, c0, c1, c2, none, p0, q0, p1, q1, p2, q2, p3, q3, d0, d1, d2, d3⟩, now⟩ ?iv rfl _ _ _ (sub_of [0, 1, 2, 3, 4, 5, 21, 7, 8, 9, 10, 11, 12, 13, 14, 15, 16, 17, 60, 61, 20] rfl rfl rfl (by cases bb <;> cases bm <;> rfl) ?tt ?hh ?ot ?ok); (case tt => simp only [ewj]; (exact clhA)); (case hh => (exact clhA)); (case ot => (exact clkA)); (case ok => (exact clkA)); (case iv => exact L2Inv.s3 h h0 h1 ⟨W, st + 1, 1, r.wd, r.vl, false, stb, kdb, wdb, vlb, chb, true, n, c0, c1, c2, none, p0, q0, p1, q1, p2, q2, p3, q3, d0, d1, d2, d3⟩ _ (BInv.nx (z' := ⟨W, st + 1, 1, r.wd, r.vl, false, stb, kdb, wdb, vlb, chb, true, n, c0, c1, c2, none, p0, q0, p1, q1, p2, q2, p3, q3, d0, d1, d2, d3⟩) b hLn hWn (b.o0) (b.o1) (b.o2) (trivial) (hi := by show 301 + j + 1 ≤ 10000; omega)) (m) (h.j) rfl rfl rfl (fun s hs => by cases hs) rfl))
set_option maxHeartbeats 4000000 in
theorem t2n3 (h : L2Inv R mm x) (h0 : 300 ≤ x.j) (h1 : x.j < 400) (hc : x.z.c3 = none) (J : ∀ p, MJ3 p bb R N o bm mm x ρ w I) : ∃ p, MG3 p bb R N o bm mm x ρ w I := by
  have F := h.facts (K := 3) h0 h1
  obtain ⟨j, ⟨W, st, kd, wd, vl, ch, stb, kdb, wdb, vlb, chb, f, n, c0, c1, c2, c3, p0, q0, p1, q1, p2, q2, p3, q3, d0, d1, d2, d3⟩, now⟩ := x
  dsimp only at h0 h1 hc F
  subst hc
  have b := h.b
  have m := h.m
  obtain ⟨hj1, ewj, hq, r1, r2, hl, hl16, w0, w1, s0, s1⟩ := F
  have hLr := hl.symm
  refine ⟨⟨f, c0, c1, false, 3, false, 0, w00, r00⟩, ?_⟩
  have hX := hXTl ⟨f, c0, c1, false, 3, false, 0, w00, r00⟩
  dsimp only [MG3, l2T, l2H, wdH]
  refine sxb hX [.r 21] [] 4000 rfl (by first | exact trivial | simp [conjP]) ?_
  refine sxb hX [.r 21] [.T] 4000 rfl (by simp [conjP, addOP, hj1]) ?_
  refine sx hX [] 3 rfl (by simp [conjP]) ?_
  simp only [hq]
  refine sx hX [] 4000 rfl (by (simp [-List.getD_eq_getElem?_getD, -List.length_eq_zero_iff, conjP, getH, HE.so, hl])) ?_
  (refine J _ ⟨j + 1, ⟨W, st, kd, wd, vl, ch, stb, kdb, wdb, vlb, chb, true, n, c0, c1, c2, none, p0, q0, p1, q1, p2, q2, p3, q3, d0, d1, d2, d3⟩, now⟩ ?iv rfl _ _ _ (sub_of [0, 1, 2, 3, 4, 5, 21, 7, 8, 9, 10, 11, 12, 13, 14, 15, 16, 17, 18, 19, 20] rfl rfl rfl (by cases bb <;> cases bm <;> rfl) ?tt ?hh ?ot ?ok); (case tt => simp only [ewj]; (exact clhA)); (case hh => (exact clhA)); (case ot => (exact clkA)); (case ok => (exact clkA)); (case iv => exact L2Inv.s3 h h0 h1 ⟨W, st, kd, wd, vl, ch, stb, kdb, wdb, vlb, chb, true, n, c0, c1, c2, none, p0, q0, p1, q1, p2, q2, p3, q3, d0, d1, d2, d3⟩ _ (b.mono' (z' := ⟨W, st, kd, wd, vl, ch, stb, kdb, wdb, vlb, chb, true, n, c0, c1, c2, none, p0, q0, p1, q1, p2, q2, p3, q3, d0, d1, d2, d3⟩) rfl rfl rfl rfl rfl rfl rfl rfl (by show 301 + j + 1 ≤ 10000; omega)) (m) (h.j) rfl rfl rfl (fun s hs => by cases hs) rfl))
theorem t2t3 (h : L2Inv R mm x) (h0 : 300 ≤ x.j) (h1 : x.j < 400) (J : ∀ p, MJ3 p bb R N o bm mm x ρ w I) : ∃ p, MG3 p bb R N o bm mm x ρ w I := by
  rcases hc : x.z.c3 with _ | ⟨ep, nx, sn, fl, tm, o'⟩
  · exact t2n3 h h0 h1 hc J
  · have ok : ROk R ⟨ep, nx, sn, fl, tm, o'⟩ := by have q := h.b.o3; rw [hc] at q; exact q
    rcases o' with _ | l
    · rcases (show nx = 1 ∨ nx = 3 ∨ nx = 4 from ok.nxc) with g | g | g
      · rcases rk1 (R := R) (W := x.z.W) (st := x.z.st) (s := ⟨ep, nx, sn, fl, tm, none⟩) g with e | e
        · exact t2r3n0 h h0 h1 hc rfl e J
        · exact t2r3n1 h h0 h1 hc rfl e J
      · exact t2r3n3 h h0 h1 hc rfl (rk3 g) J
      · exact absurd (show (0 : Nat) = 4 from ok.w4 g) (by decide)
    · rcases (show nx = 1 ∨ nx = 3 ∨ nx = 4 from ok.nxc) with g | g | g
      · rcases rk1 (R := R) (W := x.z.W) (st := x.z.st) (s := ⟨ep, nx, sn, fl, tm, some l⟩) g with e | e
        · exact t2r3s0 h h0 h1 hc rfl e J
        · exact t2r3s1 h h0 h1 hc rfl e J
      · exact t2r3s3 h h0 h1 hc rfl (rk3 g) J
      · rcases rk4 (R := R) (W := x.z.W) (st := x.z.st) (s := ⟨ep, nx, sn, fl, tm, some l⟩) g with e | e | e
        · exact t2r3s2 h h0 h1 hc rfl e J
        · exact t2r3s4 h h0 h1 hc rfl e J
        · exact t2r3s5 h h0 h1 hc rfl e J
end
end Go.Proofs.YtmghcelohnlceaaGreatDoor
