/- SmallLast: client 0 has its turn, in loop 2. -/
import Derived.Test.YtmghcelohnlceaaGreatDoorLastHead
namespace Go.Proofs.YtmghcelohnlceaaGreatDoor
open Go Go.Hx
set_option maxRecDepth 8000
section
variable {bb : Bool} {R : Int} {N : Nat} {o : Nat → Int × Int} {bm : Bool} {mm : List Int} {x : L2} {ρ : Nat → Nat × Nat} {w : World} {I : Act → World → Prop}
abbrev MJ0 (p : TP) (bb : Bool) (R : Int) (N : Nat) (o : Nat → Int × Int) (bm : Bool) (mm : List Int) (x : L2) (ρ : Nat → Nat × Nat) (w : World) (I : Act → World → Prop) : Prop :=
  ∀ x', L2Inv R mm x' → x'.j = x.j + 1 → ∀ cs T H, Sub (FEnv Tryz.prog (XTl p).TE (hXTl p).te Tryz.f6 Tryz.f6.ntmps [scE bb N o, pinE RTV] (Is .tt [scE bb N o, pinE RTV]) ρ w) T H (l2T bm mm x') (l2H bb N o R bm mm x') →
    SS (hXTl p) (At ρ w) (Is .tt [scE bb N o, pinE RTV]) ⟨cs, [], Tryz.f6, Tryz.f6.ntmps, [scE bb N o, pinE RTV], downLp (contF Tryz.f6 19 [I]), T, H⟩
abbrev MG0 (p : TP) (bb : Bool) (R : Int) (N : Nat) (o : Nat → Int × Int) (bm : Bool) (mm : List Int) (x : L2) (ρ : Nat → Nat × Nat) (w : World) (I : Act → World → Prop) : Prop :=
  SS (hXTl p) (At ρ w) (Is .tt [scE bb N o, pinE RTV]) ⟨[], [], Tryz.f6, Tryz.f6.ntmps, [scE bb N o, pinE RTV], contF Tryz.f6 19 [I], l2T bm mm x, l2H bb N o R bm mm x⟩

set_option maxHeartbeats 4000000 in
theorem t2w00 (h : L2Inv R mm x) (h0 : 0 ≤ x.j) (h1 : x.j < 100) {r : WR} {ep nx sn fl tm ii : Int} {hd : Bool} {l : List Int} (hc : x.z.c0 = some ⟨ep, nx, sn, fl, tm, ii, hd, l⟩) (hr : wStep R ⟨ep, nx, sn, fl, tm, ii, hd, l⟩ x.z.W x.z.st = r) (e0 : r.k = 0) (J : ∀ p, MJ0 p bb R N o bm mm x ρ w I) : ∃ p, MG0 p bb R N o bm mm x ρ w I := by
  have F := h.facts (K := 0) h0 h1
  obtain ⟨j, ⟨W, st, kd, wd, vl, ch, stb, kdb, wdb, vlb, chb, f, n, c0, c1, c2, c3, p0, q0, p1, q1, p2, q2, p3, q3, d0, d1, d2, d3⟩, now⟩ := x
  dsimp only at h0 h1 hc hr F
  subst hc
  have b := h.b
  have m := h.m
  obtain ⟨hj1, ewj, hq, r1, r2, hl, hl16, w0, w1, s0, s1⟩ := F
  have ok : WOk R ⟨ep, nx, sn, fl, tm, ii, hd, l⟩ := b.o0
  have aft := wAft (st := st) ok b.hw
  have hh := wHold (st := st) ok hl16
  have hend := wEnd (st := st) (W := W) ok
  have hdec := mu_dec (st := st) (W := W) ok
  rw [hr] at aft hh hend hdec
  have hLn : r.W.length = 21 := aft.hl.trans hl
  have hLr := hLn.symm
  have hWn := aft.hw
  obtain ⟨hcm0, okn⟩ := aft.go e0
  refine ⟨⟨f, (some ⟨ep, nx, sn, fl, tm, ii, hd, l⟩), c1, false, 0, false, 0, r, r00⟩, ?_⟩
  have hX := hXTl ⟨f, (some ⟨ep, nx, sn, fl, tm, ii, hd, l⟩), c1, false, 0, false, 0, r, r00⟩
  dsimp only [MG0, l2T, l2H, wdH]
  refine sxb hX [.r 21] [] 4000 rfl (by first | exact trivial | simp [conjP]) ?_
  refine sxb hX [.r 21] [.T] 4000 rfl (by simp [conjP, addOP, hj1]) ?_
  refine sx hX [] 3 rfl (by simp [conjP]) ?_
  simp only [hq]
  refine sx hX [] 4000 rfl (by (simp [-List.getD_eq_getElem?_getD, -List.length_eq_zero_iff, conjP, getH, HE.so, r1, r2, hl, w0, w1, s0, s1, ok, hr, e0, hLn])) ?_
  (simp only [hcm0]; refine J _ ⟨j + 1, ⟨r.W, st + 1, r.kd, r.wd, r.vl, r.ch, stb, kdb, wdb, vlb, chb, true, n, some ⟨ep, r.nx, r.sn, r.fl, r.tm, r.i, r.hd, l⟩, c1, c2, c3, p0, q0, p1, q1, p2, q2, p3, q3, d0, d1, d2, d3⟩, now⟩ ?iv rfl _ _ _ (sub_of [0, 1, 2, 3, 4, 5, 21, 7, 8, 9, 10, 11, 12, 13, 14, 15, 16, 17, 18, 19, 20] rfl rfl rfl (by cases bb <;> cases bm <;> rfl) ?tt ?hh ?ot ?ok); (case tt => simp only [ewj]; (exact clhA)); (case hh => (exact clhA)); (case ot => (exact clkA)); (case ok => (exact clkA)); (case iv => exact L2Inv.s0 h h1 ⟨r.W, st + 1, r.kd, r.wd, r.vl, r.ch, stb, kdb, wdb, vlb, chb, true, n, some ⟨ep, r.nx, r.sn, r.fl, r.tm, r.i, r.hd, l⟩, c1, c2, c3, p0, q0, p1, q1, p2, q2, p3, q3, d0, d1, d2, d3⟩ _ (BInv.nx (z' := ⟨r.W, st + 1, r.kd, r.wd, r.vl, r.ch, stb, kdb, wdb, vlb, chb, true, n, some ⟨ep, r.nx, r.sn, r.fl, r.tm, r.i, r.hd, l⟩, c1, c2, c3, p0, q0, p1, q1, p2, q2, p3, q3, d0, d1, d2, d3⟩) b hLn hWn (okn) (b.o1) (b.o2) (b.o3) (hi := by show 301 + j + 1 ≤ 10000; omega)) (m.on ok b.o1 hh e0) (h.j.on m ok b.o1 hl hr e0) (fun s hs => by have q := h.q0 _ rfl; cases hs; have := hdec e0; dsimp only at q this ⊢; omega) rfl))
set_option maxHeartbeats 4000000 in
theorem t2w01 (h : L2Inv R mm x) (h0 : 0 ≤ x.j) (h1 : x.j < 100) {r : WR} {ep nx sn fl tm ii : Int} {hd : Bool} {l : List Int} (hc : x.z.c0 = some ⟨ep, nx, sn, fl, tm, ii, hd, l⟩) (hr : wStep R ⟨ep, nx, sn, fl, tm, ii, hd, l⟩ x.z.W x.z.st = r) (e0 : r.k = 1) (J : ∀ p, MJ0 p bb R N o bm mm x ρ w I) : ∃ p, MG0 p bb R N o bm mm x ρ w I := by
  have F := h.facts (K := 0) h0 h1
  obtain ⟨j, ⟨W, st, kd, wd, vl, ch, stb, kdb, wdb, vlb, chb, f, n, c0, c1, c2, c3, p0, q0, p1, q1, p2, q2, p3, q3, d0, d1, d2, d3⟩, now⟩ := x
  dsimp only at h0 h1 hc hr F
  subst hc
  have b := h.b
  have m := h.m
  obtain ⟨hj1, ewj, hq, r1, r2, hl, hl16, w0, w1, s0, s1⟩ := F
  have ok : WOk R ⟨ep, nx, sn, fl, tm, ii, hd, l⟩ := b.o0
  have aft := wAft (st := st) ok b.hw
  have hh := wHold (st := st) ok hl16
  have hend := wEnd (st := st) (W := W) ok
  have hdec := mu_dec (st := st) (W := W) ok
  rw [hr] at aft hh hend hdec
  have hLn : r.W.length = 21 := aft.hl.trans hl
  have hLr := hLn.symm
  have hWn := aft.hw
  have hnx : r.nx = 0 := hend.1 (by omega)
  have hcn : ¬ r.c = 0 := by rcases hend.2 e0 with q | q | q <;> omega
  refine ⟨⟨f, (some ⟨ep, nx, sn, fl, tm, ii, hd, l⟩), c1, false, 0, false, 1, r, r00⟩, ?_⟩
  have hX := hXTl ⟨f, (some ⟨ep, nx, sn, fl, tm, ii, hd, l⟩), c1, false, 0, false, 1, r, r00⟩
  dsimp only [MG0, l2T, l2H, wdH]
  refine sxb hX [.r 21] [] 4000 rfl (by first | exact trivial | simp [conjP]) ?_
  refine sxb hX [.r 21] [.T] 4000 rfl (by simp [conjP, addOP, hj1]) ?_
  refine sx hX [] 3 rfl (by simp [conjP]) ?_
  simp only [hq]
  refine sx hX [] 4000 rfl (by (simp [-List.getD_eq_getElem?_getD, -List.length_eq_zero_iff, conjP, r1, r2, hl, w0, w1, s0, s1, ok, hr, e0])) ?_
  refine sx hX [.F] 4000 rfl (by (simp [-List.getD_eq_getElem?_getD, -List.length_eq_zero_iff, conjP, hnx])) ?_
  refine sx hX [.F] 4000 rfl (by (simp [-List.getD_eq_getElem?_getD, -List.length_eq_zero_iff, conjP, getH, HE.so, hLn, hcn])) ?_
  (refine J _ ⟨j + 1, ⟨r.W, st + 1, r.kd, r.wd, r.vl, r.ch, stb, kdb, wdb, vlb, chb, true, n, none, c1, c2, c3, p0, q0, p1, q1, p2, q2, p3, q3, d0, d1, d2, d3⟩, now⟩ ?iv rfl _ _ _ (sub_of [0, 1, 2, 3, 4, 5, 21, 7, 8, 9, 10, 11, 60, 61, 14, 15, 16, 17, 18, 19, 20] rfl rfl rfl (by cases bb <;> cases bm <;> rfl) ?tt ?hh ?ot ?ok); (case tt => simp only [ewj]; (exact clhA)); (case hh => (exact clhA)); (case ot => (exact clkA)); (case ok => (exact clkA)); (case iv => exact L2Inv.s0 h h1 ⟨r.W, st + 1, r.kd, r.wd, r.vl, r.ch, stb, kdb, wdb, vlb, chb, true, n, none, c1, c2, c3, p0, q0, p1, q1, p2, q2, p3, q3, d0, d1, d2, d3⟩ _ (BInv.nx (z' := ⟨r.W, st + 1, r.kd, r.wd, r.vl, r.ch, stb, kdb, wdb, vlb, chb, true, n, none, c1, c2, c3, p0, q0, p1, q1, p2, q2, p3, q3, d0, d1, d2, d3⟩) b hLn hWn (trivial) (b.o1) (b.o2) (b.o3) (hi := by show 301 + j + 1 ≤ 10000; omega)) (m.off hh (.inl e0)) (h.j.err ok hr e0) (fun s hs => by cases hs) rfl))
set_option maxHeartbeats 4000000 in
theorem t2w02 (h : L2Inv R mm x) (h0 : 0 ≤ x.j) (h1 : x.j < 100) {r : WR} {ep nx sn fl tm ii : Int} {hd : Bool} {l : List Int} (hc : x.z.c0 = some ⟨ep, nx, sn, fl, tm, ii, hd, l⟩) (hr : wStep R ⟨ep, nx, sn, fl, tm, ii, hd, l⟩ x.z.W x.z.st = r) (e0 : r.k = 2) (J : ∀ p, MJ0 p bb R N o bm mm x ρ w I) : ∃ p, MG0 p bb R N o bm mm x ρ w I := by
  have F := h.facts (K := 0) h0 h1
  obtain ⟨j, ⟨W, st, kd, wd, vl, ch, stb, kdb, wdb, vlb, chb, f, n, c0, c1, c2, c3, p0, q0, p1, q1, p2, q2, p3, q3, d0, d1, d2, d3⟩, now⟩ := x
  dsimp only at h0 h1 hc hr F
  subst hc
  have b := h.b
  have m := h.m
  obtain ⟨hj1, ewj, hq, r1, r2, hl, hl16, w0, w1, s0, s1⟩ := F
  have ok : WOk R ⟨ep, nx, sn, fl, tm, ii, hd, l⟩ := b.o0
  have aft := wAft (st := st) ok b.hw
  have hh := wHold (st := st) ok hl16
  have hend := wEnd (st := st) (W := W) ok
  have hdec := mu_dec (st := st) (W := W) ok
  rw [hr] at aft hh hend hdec
  have hLn : r.W.length = 21 := aft.hl.trans hl
  have hLr := hLn.symm
  have hWn := aft.hw
  have hnx : r.nx = 0 := hend.1 (by omega)
  refine ⟨⟨f, (some ⟨ep, nx, sn, fl, tm, ii, hd, l⟩), c1, false, 0, false, 2, r, r00⟩, ?_⟩
  have hX := hXTl ⟨f, (some ⟨ep, nx, sn, fl, tm, ii, hd, l⟩), c1, false, 0, false, 2, r, r00⟩
  dsimp only [MG0, l2T, l2H, wdH]
  refine sxb hX [.r 21] [] 4000 rfl (by first | exact trivial | simp [conjP]) ?_
  refine sxb hX [.r 21] [.T] 4000 rfl (by simp [conjP, addOP, hj1]) ?_
  refine sx hX [] 3 rfl (by simp [conjP]) ?_
  simp only [hq]
  refine sx hX [] 4000 rfl (by (simp [-List.getD_eq_getElem?_getD, -List.length_eq_zero_iff, conjP, r1, r2, hl, w0, w1, s0, s1, ok, hr, e0])) ?_
  refine sx hX [.F] 4000 rfl (by (simp [-List.getD_eq_getElem?_getD, -List.length_eq_zero_iff, conjP, addOP, hnx])) ?_
  refine sx hX [.T] 4000 rfl (by (simp [-List.getD_eq_getElem?_getD, -List.length_eq_zero_iff, conjP, getH, HE.so, hLn])) ?_
  (refine J _ ⟨j + 1, ⟨r.W, st + 1, r.kd, r.wd, r.vl, r.ch, stb, kdb, wdb, vlb, chb, true, n, none, c1, c2, c3, p0, q0, p1, q1, p2, q2, p3, q3, d0, d1, d2, d3⟩, d0⟩ ?iv rfl _ _ _ (sub_of [0, 1, 2, 3, 4, 5, 21, 7, 8, 9, 10, 11, 60, 61, 14, 15, 16, 17, 18, 19, 20] rfl rfl rfl (by cases bb <;> cases bm <;> rfl) ?tt ?hh ?ot ?ok); (case tt => simp only [ewj]; (exact clhA)); (case hh => (exact clhA)); (case ot => (exact clkA)); (case ok => (exact clkA)); (case iv => exact L2Inv.s0 h h1 ⟨r.W, st + 1, r.kd, r.wd, r.vl, r.ch, stb, kdb, wdb, vlb, chb, true, n, none, c1, c2, c3, p0, q0, p1, q1, p2, q2, p3, q3, d0, d1, d2, d3⟩ _ (BInv.nx (z' := ⟨r.W, st + 1, r.kd, r.wd, r.vl, r.ch, stb, kdb, wdb, vlb, chb, true, n, none, c1, c2, c3, p0, q0, p1, q1, p2, q2, p3, q3, d0, d1, d2, d3⟩) b hLn hWn (trivial) (b.o1) (b.o2) (b.o3) (hi := by show 301 + j + 1 ≤ 10000; omega)) (m.off hh (.inr e0)) (h.j.fin m ok hl hr e0) (fun s hs => by cases hs) rfl))
set_option maxHeartbeats 4000000 in
theorem t2n0 (h : L2Inv R mm x) (h0 : 0 ≤ x.j) (h1 : x.j < 100) (hc : x.z.c0 = none) (J : ∀ p, MJ0 p bb R N o bm mm x ρ w I) : ∃ p, MG0 p bb R N o bm mm x ρ w I := by
  have F := h.facts (K := 0) h0 h1
  obtain ⟨j, ⟨W, st, kd, wd, vl, ch, stb, kdb, wdb, vlb, chb, f, n, c0, c1, c2, c3, p0, q0, p1, q1, p2, q2, p3, q3, d0, d1, d2, d3⟩, now⟩ := x
  dsimp only at h0 h1 hc F
  subst hc
  have b := h.b
  have m := h.m
  obtain ⟨hj1, ewj, hq, r1, r2, hl, hl16, w0, w1, s0, s1⟩ := F
  have hLr := hl.symm
  refine ⟨⟨f, (none), c1, false, 0, false, 0, w00, r00⟩, ?_⟩
  have hX := hXTl ⟨f, (none), c1, false, 0, false, 0, w00, r00⟩
  dsimp only [MG0, l2T, l2H, wdH]
  refine sxb hX [.r 21] [] 4000 rfl (by first | exact trivial | simp [conjP]) ?_
  refine sxb hX [.r 21] [.T] 4000 rfl (by simp [conjP, addOP, hj1]) ?_
  refine sx hX [] 3 rfl (by simp [conjP]) ?_
  simp only [hq]
  refine sx hX [] 4000 rfl (by (simp [-List.getD_eq_getElem?_getD, -List.length_eq_zero_iff, conjP, getH, HE.so, hl])) ?_
  (refine J _ ⟨j + 1, ⟨W, st, kd, wd, vl, ch, stb, kdb, wdb, vlb, chb, true, n, none, c1, c2, c3, p0, q0, p1, q1, p2, q2, p3, q3, d0, d1, d2, d3⟩, now⟩ ?iv rfl _ _ _ (sub_of [0, 1, 2, 3, 4, 5, 21, 7, 8, 9, 10, 11, 12, 13, 14, 15, 16, 17, 18, 19, 20] rfl rfl rfl (by cases bb <;> cases bm <;> rfl) ?tt ?hh ?ot ?ok); (case tt => simp only [ewj]; (exact clhA)); (case hh => (exact clhA)); (case ot => (exact clkA)); (case ok => (exact clkA)); (case iv => exact L2Inv.s0 h h1 ⟨W, st, kd, wd, vl, ch, stb, kdb, wdb, vlb, chb, true, n, none, c1, c2, c3, p0, q0, p1, q1, p2, q2, p3, q3, d0, d1, d2, d3⟩ _ (b.mono' (z' := ⟨W, st, kd, wd, vl, ch, stb, kdb, wdb, vlb, chb, true, n, none, c1, c2, c3, p0, q0, p1, q1, p2, q2, p3, q3, d0, d1, d2, d3⟩) rfl rfl rfl rfl rfl rfl rfl rfl (by show 301 + j + 1 ≤ 10000; omega)) (m) (h.j) (fun s hs => by cases hs) rfl))
theorem t2t0 (h : L2Inv R mm x) (h0 : 0 ≤ x.j) (h1 : x.j < 100) (J : ∀ p, MJ0 p bb R N o bm mm x ρ w I) : ∃ p, MG0 p bb R N o bm mm x ρ w I := by
  rcases hc : x.z.c0 with _ | ⟨ep, nx, sn, fl, tm, ii, hd, l⟩
  · exact t2n0 h h0 h1 hc J
  · have ok : WOk R ⟨ep, nx, sn, fl, tm, ii, hd, l⟩ := by have q := h.b.o0; rw [hc] at q; exact q
    have k2 := (wAft (st := x.z.st) ok h.b.hw).k2
    have kc : (wStep R ⟨ep, nx, sn, fl, tm, ii, hd, l⟩ x.z.W x.z.st).k = 0 ∨ (wStep R ⟨ep, nx, sn, fl, tm, ii, hd, l⟩ x.z.W x.z.st).k = 1 ∨ (wStep R ⟨ep, nx, sn, fl, tm, ii, hd, l⟩ x.z.W x.z.st).k = 2 := by omega
    rcases kc with e | e | e
    · exact t2w00 h h0 h1 hc rfl e J
    · exact t2w01 h h0 h1 hc rfl e J
    · exact t2w02 h h0 h1 hc rfl e J
end
end Go.Proofs.YtmghcelohnlceaaGreatDoor

/- SmallLast: client 1 has its turn, in loop 2. -/
namespace Go.Proofs.YtmghcelohnlceaaGreatDoor
open Go Go.Hx
set_option maxRecDepth 8000
section
variable {bb : Bool} {R : Int} {N : Nat} {o : Nat → Int × Int} {bm : Bool} {mm : List Int} {x : L2} {ρ : Nat → Nat × Nat} {w : World} {I : Act → World → Prop}
abbrev MJ1 (p : TP) (bb : Bool) (R : Int) (N : Nat) (o : Nat → Int × Int) (bm : Bool) (mm : List Int) (x : L2) (ρ : Nat → Nat × Nat) (w : World) (I : Act → World → Prop) : Prop :=
  ∀ x', L2Inv R mm x' → x'.j = x.j + 1 → ∀ cs T H, Sub (FEnv Tryz.prog (XTl p).TE (hXTl p).te Tryz.f6 Tryz.f6.ntmps [scE bb N o, pinE RTV] (Is .tt [scE bb N o, pinE RTV]) ρ w) T H (l2T bm mm x') (l2H bb N o R bm mm x') →
    SS (hXTl p) (At ρ w) (Is .tt [scE bb N o, pinE RTV]) ⟨cs, [], Tryz.f6, Tryz.f6.ntmps, [scE bb N o, pinE RTV], downLp (contF Tryz.f6 19 [I]), T, H⟩
abbrev MG1 (p : TP) (bb : Bool) (R : Int) (N : Nat) (o : Nat → Int × Int) (bm : Bool) (mm : List Int) (x : L2) (ρ : Nat → Nat × Nat) (w : World) (I : Act → World → Prop) : Prop :=
  SS (hXTl p) (At ρ w) (Is .tt [scE bb N o, pinE RTV]) ⟨[], [], Tryz.f6, Tryz.f6.ntmps, [scE bb N o, pinE RTV], contF Tryz.f6 19 [I], l2T bm mm x, l2H bb N o R bm mm x⟩

set_option maxHeartbeats 4000000 in
theorem t2w10 (h : L2Inv R mm x) (h0 : 100 ≤ x.j) (h1 : x.j < 200) {r : WR} {ep nx sn fl tm ii : Int} {hd : Bool} {l : List Int} (hc : x.z.c1 = some ⟨ep, nx, sn, fl, tm, ii, hd, l⟩) (hr : wStep R ⟨ep, nx, sn, fl, tm, ii, hd, l⟩ x.z.W x.z.st = r) (e0 : r.k = 0) (J : ∀ p, MJ1 p bb R N o bm mm x ρ w I) : ∃ p, MG1 p bb R N o bm mm x ρ w I := by
  have F := h.facts (K := 1) h0 h1
  obtain ⟨j, ⟨W, st, kd, wd, vl, ch, stb, kdb, wdb, vlb, chb, f, n, c0, c1, c2, c3, p0, q0, p1, q1, p2, q2, p3, q3, d0, d1, d2, d3⟩, now⟩ := x
  dsimp only at h0 h1 hc hr F
  subst hc
  have b := h.b
  have m := h.m
  obtain ⟨hj1, ewj, hq, r1, r2, hl, hl16, w0, w1, s0, s1⟩ := F
  have ok : WOk R ⟨ep, nx, sn, fl, tm, ii, hd, l⟩ := b.o1
  have aft := wAft (st := st) ok b.hw
  have hh := wHold (st := st) ok hl16
  have hend := wEnd (st := st) (W := W) ok
  have hdec := mu_dec (st := st) (W := W) ok
  rw [hr] at aft hh hend hdec
  have hLn : r.W.length = 21 := aft.hl.trans hl
  have hLr := hLn.symm
  have hWn := aft.hw
  obtain ⟨hcm0, okn⟩ := aft.go e0
  refine ⟨⟨f, c0, (some ⟨ep, nx, sn, fl, tm, ii, hd, l⟩), false, 1, false, 0, r, r00⟩, ?_⟩
  have hX := hXTl ⟨f, c0, (some ⟨ep, nx, sn, fl, tm, ii, hd, l⟩), false, 1, false, 0, r, r00⟩
  dsimp only [MG1, l2T, l2H, wdH]
  refine sxb hX [.r 21] [] 4000 rfl (by first | exact trivial | simp [conjP]) ?_
  refine sxb hX [.r 21] [.T] 4000 rfl (by simp [conjP, addOP, hj1]) ?_
  refine sx hX [] 3 rfl (by simp [conjP]) ?_
  simp only [hq]
  refine sx hX [] 4000 rfl (by (simp [-List.getD_eq_getElem?_getD, -List.length_eq_zero_iff, conjP, getH, HE.so, r1, r2, hl, w0, w1, s0, s1, ok, hr, e0, hLn])) ?_
  (simp only [hcm0]; refine J _ ⟨j + 1, ⟨r.W, st + 1, r.kd, r.wd, r.vl, r.ch, stb, kdb, wdb, vlb, chb, true, n, c0, some ⟨ep, r.nx, r.sn, r.fl, r.tm, r.i, r.hd, l⟩, c2, c3, p0, q0, p1, q1, p2, q2, p3, q3, d0, d1, d2, d3⟩, now⟩ ?iv rfl _ _ _ (sub_of [0, 1, 2, 3, 4, 5, 21, 7, 8, 9, 10, 11, 12, 13, 14, 15, 16, 17, 18, 19, 20] rfl rfl rfl (by cases bb <;> cases bm <;> rfl) ?tt ?hh ?ot ?ok); (case tt => simp only [ewj]; (exact clhA)); (case hh => (exact clhA)); (case ot => (exact clkA)); (case ok => (exact clkA)); (case iv => exact L2Inv.s1 h h0 h1 ⟨r.W, st + 1, r.kd, r.wd, r.vl, r.ch, stb, kdb, wdb, vlb, chb, true, n, c0, some ⟨ep, r.nx, r.sn, r.fl, r.tm, r.i, r.hd, l⟩, c2, c3, p0, q0, p1, q1, p2, q2, p3, q3, d0, d1, d2, d3⟩ _ (BInv.nx (z' := ⟨r.W, st + 1, r.kd, r.wd, r.vl, r.ch, stb, kdb, wdb, vlb, chb, true, n, c0, some ⟨ep, r.nx, r.sn, r.fl, r.tm, r.i, r.hd, l⟩, c2, c3, p0, q0, p1, q1, p2, q2, p3, q3, d0, d1, d2, d3⟩) b hLn hWn (b.o0) (okn) (b.o2) (b.o3) (hi := by show 301 + j + 1 ≤ 10000; omega)) ((m.swap.on ok b.o0 hh e0).swap) ((h.j.swap.on m.swap ok b.o0 hl hr e0).swap) rfl (fun s hs => by have q := h.q1 h0 _ rfl; cases hs; have := hdec e0; dsimp only at q this ⊢; omega) rfl))
set_option maxHeartbeats 4000000 in
theorem t2w11 (h : L2Inv R mm x) (h0 : 100 ≤ x.j) (h1 : x.j < 200) {r : WR} {ep nx sn fl tm ii : Int} {hd : Bool} {l : List Int} (hc : x.z.c1 = some ⟨ep, nx, sn, fl, tm, ii, hd, l⟩) (hr : wStep R ⟨ep, nx, sn, fl, tm, ii, hd, l⟩ x.z.W x.z.st = r) (e0 : r.k = 1) (J : ∀ p, MJ1 p bb R N o bm mm x ρ w I) : ∃ p, MG1 p bb R N o bm mm x ρ w I := by
  have F := h.facts (K := 1) h0 h1
  obtain ⟨j, ⟨W, st, kd, wd, vl, ch, stb, kdb, wdb, vlb, chb, f, n, c0, c1, c2, c3, p0, q0, p1, q1, p2, q2, p3, q3, d0, d1, d2, d3⟩, now⟩ := x
  dsimp only at h0 h1 hc hr F
  subst hc
  have b := h.b
  have m := h.m
  obtain ⟨hj1, ewj, hq, r1, r2, hl, hl16, w0, w1, s0, s1⟩ := F
  have ok : WOk R ⟨ep, nx, sn, fl, tm, ii, hd, l⟩ := b.o1
  have aft := wAft (st := st) ok b.hw
  have hh := wHold (st := st) ok hl16
  have hend := wEnd (st := st) (W := W) ok
  have hdec := mu_dec (st := st) (W := W) ok
  rw [hr] at aft hh hend hdec
  have hLn : r.W.length = 21 := aft.hl.trans hl
  have hLr := hLn.symm
  have hWn := aft.hw
  have hnx : r.nx = 0 := hend.1 (by omega)
  have hcn : ¬ r.c = 0 := by rcases hend.2 e0 with q | q | q <;> omega
  refine ⟨⟨f, c0, (some ⟨ep, nx, sn, fl, tm, ii, hd, l⟩), false, 1, false, 1, r, r00⟩, ?_⟩
  have hX := hXTl ⟨f, c0, (some ⟨ep, nx, sn, fl, tm, ii, hd, l⟩), false, 1, false, 1, r, r00⟩
  dsimp only [MG1, l2T, l2H, wdH]
  refine sxb hX [.r 21] [] 4000 rfl (by first | exact trivial | simp [conjP]) ?_
  refine sxb hX [.r 21] [.T] 4000 rfl (by simp [conjP, addOP, hj1]) ?_
  refine sx hX [] 3 rfl (by simp [conjP]) ?_
  simp only [hq]
  refine sx hX [] 4000 rfl (by (simp [-List.getD_eq_getElem?_getD, -List.length_eq_zero_iff, conjP, r1, r2, hl, w0, w1, s0, s1, ok, hr, e0])) ?_
  refine sx hX [.F] 4000 rfl (by (simp [-List.getD_eq_getElem?_getD, -List.length_eq_zero_iff, conjP, hnx])) ?_
  refine sx hX [.F] 4000 rfl (by (simp [-List.getD_eq_getElem?_getD, -List.length_eq_zero_iff, conjP, getH, HE.so, hLn, hcn])) ?_
  (refine J _ ⟨j + 1, ⟨r.W, st + 1, r.kd, r.wd, r.vl, r.ch, stb, kdb, wdb, vlb, chb, true, n, c0, none, c2, c3, p0, q0, p1, q1, p2, q2, p3, q3, d0, d1, d2, d3⟩, now⟩ ?iv rfl _ _ _ (sub_of [0, 1, 2, 3, 4, 5, 21, 7, 8, 9, 10, 11, 12, 13, 60, 61, 16, 17, 18, 19, 20] rfl rfl rfl (by cases bb <;> cases bm <;> rfl) ?tt ?hh ?ot ?ok); (case tt => simp only [ewj]; (exact clhA)); (case hh => (exact clhA)); (case ot => (exact clkA)); (case ok => (exact clkA)); (case iv => exact L2Inv.s1 h h0 h1 ⟨r.W, st + 1, r.kd, r.wd, r.vl, r.ch, stb, kdb, wdb, vlb, chb, true, n, c0, none, c2, c3, p0, q0, p1, q1, p2, q2, p3, q3, d0, d1, d2, d3⟩ _ (BInv.nx (z' := ⟨r.W, st + 1, r.kd, r.wd, r.vl, r.ch, stb, kdb, wdb, vlb, chb, true, n, c0, none, c2, c3, p0, q0, p1, q1, p2, q2, p3, q3, d0, d1, d2, d3⟩) b hLn hWn (b.o0) (trivial) (b.o2) (b.o3) (hi := by show 301 + j + 1 ≤ 10000; omega)) ((m.swap.off hh (.inl e0)).swap) ((h.j.swap.err ok hr e0).swap) rfl (fun s hs => by cases hs) rfl))
set_option maxHeartbeats 4000000 in
theorem t2w12 (h : L2Inv R mm x) (h0 : 100 ≤ x.j) (h1 : x.j < 200) {r : WR} {ep nx sn fl tm ii : Int} {hd : Bool} {l : List Int} (hc : x.z.c1 = some ⟨ep, nx, sn, fl, tm, ii, hd, l⟩) (hr : wStep R ⟨ep, nx, sn, fl, tm, ii, hd, l⟩ x.z.W x.z.st = r) (e0 : r.k = 2) (J : ∀ p, MJ1 p bb R N o bm mm x ρ w I) : ∃ p, MG1 p bb R N o bm mm x ρ w I := by
  have F := h.facts (K := 1) h0 h1
  obtain ⟨j, ⟨W, st, kd, wd, vl, ch, stb, kdb, wdb, vlb, chb, f, n, c0, c1, c2, c3, p0, q0, p1, q1, p2, q2, p3, q3, d0, d1, d2, d3⟩, now⟩ := x
  dsimp only at h0 h1 hc hr F
  subst hc
  have b := h.b
  have m := h.m
  obtain ⟨hj1, ewj, hq, r1, r2, hl, hl16, w0, w1, s0, s1⟩ := F
  have ok : WOk R ⟨ep, nx, sn, fl, tm, ii, hd, l⟩ := b.o1
  have aft := wAft (st := st) ok b.hw
  have hh := wHold (st := st) ok hl16
  have hend := wEnd (st := st) (W := W) ok
  have hdec := mu_dec (st := st) (W := W) ok
  rw [hr] at aft hh hend hdec
  have hLn : r.W.length = 21 := aft.hl.trans hl
  have hLr := hLn.symm
  have hWn := aft.hw
  have hnx : r.nx = 0 := hend.1 (by omega)
  refine ⟨⟨f, c0, (some ⟨ep, nx, sn, fl, tm, ii, hd, l⟩), false, 1, false, 2, r, r00⟩, ?_⟩
  have hX := hXTl ⟨f, c0, (some ⟨ep, nx, sn, fl, tm, ii, hd, l⟩), false, 1, false, 2, r, r00⟩
  dsimp only [MG1, l2T, l2H, wdH]
  refine sxb hX [.r 21] [] 4000 rfl (by first | exact trivial | simp [conjP]) ?_
  refine sxb hX [.r 21] [.T] 4000 rfl (by simp [conjP, addOP, hj1]) ?_
  refine sx hX [] 3 rfl (by simp [conjP]) ?_
  simp only [hq]
  refine sx hX [] 4000 rfl (by (simp [-List.getD_eq_getElem?_getD, -List.length_eq_zero_iff, conjP, r1, r2, hl, w0, w1, s0, s1, ok, hr, e0])) ?_
  refine sx hX [.F] 4000 rfl (by (simp [-List.getD_eq_getElem?_getD, -List.length_eq_zero_iff, conjP, addOP, hnx])) ?_
  refine sx hX [.T] 4000 rfl (by (simp [-List.getD_eq_getElem?_getD, -List.length_eq_zero_iff, conjP, getH, HE.so, hLn])) ?_
  (refine J _ ⟨j + 1, ⟨r.W, st + 1, r.kd, r.wd, r.vl, r.ch, stb, kdb, wdb, vlb, chb, true, n, c0, none, c2, c3, p0, q0, p1, q1, p2, q2, p3, q3, d0, d1, d2, d3⟩, d1⟩ ?iv rfl _ _ _ (sub_of [0, 1, 2, 3, 4, 5, 21, 7, 8, 9, 10, 11, 12, 13, 60, 61, 16, 17, 18, 19, 20] rfl rfl rfl (by cases bb <;> cases bm <;> rfl) ?tt ?hh ?ot ?ok); (case tt => simp only [ewj]; (exact clhA)); (case hh => (exact clhA)); (case ot => (exact clkA)); (case ok => (exact clkA)); (case iv => exact L2Inv.s1 h h0 h1 ⟨r.W, st + 1, r.kd, r.wd, r.vl, r.ch, stb, kdb, wdb, vlb, chb, true, n, c0, none, c2, c3, p0, q0, p1, q1, p2, q2, p3, q3, d0, d1, d2, d3⟩ _ (BInv.nx (z' := ⟨r.W, st + 1, r.kd, r.wd, r.vl, r.ch, stb, kdb, wdb, vlb, chb, true, n, c0, none, c2, c3, p0, q0, p1, q1, p2, q2, p3, q3, d0, d1, d2, d3⟩) b hLn hWn (b.o0) (trivial) (b.o2) (b.o3) (hi := by show 301 + j + 1 ≤ 10000; omega)) ((m.swap.off hh (.inr e0)).swap) ((h.j.swap.fin m.swap ok hl hr e0).swap) rfl (fun s hs => by cases hs) rfl))
set_option maxHeartbeats 4000000 in
theorem t2n1 (h : L2Inv R mm x) (h0 : 100 ≤ x.j) (h1 : x.j < 200) (hc : x.z.c1 = none) (J : ∀ p, MJ1 p bb R N o bm mm x ρ w I) : ∃ p, MG1 p bb R N o bm mm x ρ w I := by
  have F := h.facts (K := 1) h0 h1
  obtain ⟨j, ⟨W, st, kd, wd, vl, ch, stb, kdb, wdb, vlb, chb, f, n, c0, c1, c2, c3, p0, q0, p1, q1, p2, q2, p3, q3, d0, d1, d2, d3⟩, now⟩ := x
  dsimp only at h0 h1 hc F
  subst hc
  have b := h.b
  have m := h.m
  obtain ⟨hj1, ewj, hq, r1, r2, hl, hl16, w0, w1, s0, s1⟩ := F
  have hLr := hl.symm
  refine ⟨⟨f, c0, (none), false, 1, false, 0, w00, r00⟩, ?_⟩
  have hX := hXTl ⟨f, c0, (none), false, 1, false, 0, w00, r00⟩
  dsimp only [MG1, l2T, l2H, wdH]
  refine sxb hX [.r 21] [] 4000 rfl (by first | exact trivial | simp [conjP]) ?_
  refine sxb hX [.r 21] [.T] 4000 rfl (by simp [conjP, addOP, hj1]) ?_
  refine sx hX [] 3 rfl (by simp [conjP]) ?_
  simp only [hq]
  refine sx hX [] 4000 rfl (by (simp [-List.getD_eq_getElem?_getD, -List.length_eq_zero_iff, conjP, getH, HE.so, hl])) ?_
  (refine J _ ⟨j + 1, ⟨W, st, kd, wd, vl, ch, stb, kdb, wdb, vlb, chb, true, n, c0, none, c2, c3, p0, q0, p1, q1, p2, q2, p3, q3, d0, d1, d2, d3⟩, now⟩ ?iv rfl _ _ _ (sub_of [0, 1, 2, 3, 4, 5, 21, 7, 8, 9, 10, 11, 12, 13, 14, 15, 16, 17, 18, 19, 20] rfl rfl rfl (by cases bb <;> cases bm <;> rfl) ?tt ?hh ?ot ?ok); (case tt => simp only [ewj]; (exact clhA)); (case hh => (exact clhA)); (case ot => (exact clkA)); (case ok => (exact clkA)); (case iv => exact L2Inv.s1 h h0 h1 ⟨W, st, kd, wd, vl, ch, stb, kdb, wdb, vlb, chb, true, n, c0, none, c2, c3, p0, q0, p1, q1, p2, q2, p3, q3, d0, d1, d2, d3⟩ _ (b.mono' (z' := ⟨W, st, kd, wd, vl, ch, stb, kdb, wdb, vlb, chb, true, n, c0, none, c2, c3, p0, q0, p1, q1, p2, q2, p3, q3, d0, d1, d2, d3⟩) rfl rfl rfl rfl rfl rfl rfl rfl (by show 301 + j + 1 ≤ 10000; omega)) (m) (h.j) rfl (fun s hs => by cases hs) rfl))
theorem t2t1 (h : L2Inv R mm x) (h0 : 100 ≤ x.j) (h1 : x.j < 200) (J : ∀ p, MJ1 p bb R N o bm mm x ρ w I) : ∃ p, MG1 p bb R N o bm mm x ρ w I := by
  rcases hc : x.z.c1 with _ | ⟨ep, nx, sn, fl, tm, ii, hd, l⟩
  · exact t2n1 h h0 h1 hc J
  · have ok : WOk R ⟨ep, nx, sn, fl, tm, ii, hd, l⟩ := by have q := h.b.o1; rw [hc] at q; exact q
    have k2 := (wAft (st := x.z.st) ok h.b.hw).k2
    have kc : (wStep R ⟨ep, nx, sn, fl, tm, ii, hd, l⟩ x.z.W x.z.st).k = 0 ∨ (wStep R ⟨ep, nx, sn, fl, tm, ii, hd, l⟩ x.z.W x.z.st).k = 1 ∨ (wStep R ⟨ep, nx, sn, fl, tm, ii, hd, l⟩ x.z.W x.z.st).k = 2 := by omega
    rcases kc with e | e | e
    · exact t2w10 h h0 h1 hc rfl e J
    · exact t2w11 h h0 h1 hc rfl e J
    · exact t2w12 h h0 h1 hc rfl e J
end
end Go.Proofs.YtmghcelohnlceaaGreatDoor
