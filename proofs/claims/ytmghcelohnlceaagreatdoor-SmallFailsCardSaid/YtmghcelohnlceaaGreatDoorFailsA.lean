/- SmallFails: client 0's turns. -/
import Derived.Test.YtmghcelohnlceaaGreatDoorFailsLaw
namespace Go.Proofs.YtmghcelohnlceaaGreatDoor
open Go Go.Hx
set_option maxRecDepth 8000
section
variable {R : Int} {N cap : Nat} {o : Nat → Int × Int} {x : FS} {ρ : Nat → Nat × Nat} {w : World} {I : Act → World → Prop}
/-- What is still to be shown of a round. -/
abbrev FJ0 (p : TP) (R : Int) (N cap : Nat) (o : Nat → Int × Int) (x : FS) (ρ : Nat → Nat × Nat) (w : World) (I : Act → World → Prop) : Prop :=
  ∀ x', FInv R N x' → x'.i = x.i + 1 → ∀ cs T H, Sub (FEnv Tryz.prog (XTu p).TE (hXTu p).te Tryz.f4 Tryz.f4.ntmps [.obj (.rows N 2 (actR o)), pinE RTV] (Is .tt [.obj (.rows N 2 (actR o)), pinE RTV]) ρ w) T H (fsT N cap x') (fsH N o R x') →
    SS (hXTu p) (At ρ w) (Is .tt [.obj (.rows N 2 (actR o)), pinE RTV]) ⟨cs, [], Tryz.f4, Tryz.f4.ntmps, [.obj (.rows N 2 (actR o)), pinE RTV], downLp (contF Tryz.f4 8 [I]), T, H⟩
abbrev FG0 (p : TP) (R : Int) (N cap : Nat) (o : Nat → Int × Int) (x : FS) (ρ : Nat → Nat × Nat) (w : World) (I : Act → World → Prop) : Prop :=
  SS (hXTu p) (At ρ w) (Is .tt [.obj (.rows N 2 (actR o)), pinE RTV]) ⟨[], [], Tryz.f4, Tryz.f4.ntmps, [.obj (.rows N 2 (actR o)), pinE RTV], contF Tryz.f4 8 [I], fsT N cap x, fsH N o R x⟩

set_option maxHeartbeats 4000000 in
theorem wt0iA (h : FInv R N x) (hin : x.i < N) (hi : x.i < 150) (ha : a3 (o x.i).1 = 0) (hb : bkB (o x.i).1 (o x.i).2 (hdO x.z.c0) (hdO x.z.c1) = false) {r : WR} (hc : x.z.c0 = none) (hr : wStep R ⟨epW (x.z.W.getD 7 0), 1, 0, 0, 0, 0, false, List.replicate (1 + a3 (o x.i).2).toNat (x.z.n + 1)⟩ x.z.W x.z.st = r) (e0 : r.k = 0) (e1 : r.wd = 7) (e2 : r.ch = false)
    (J : ∀ p, FJ0 p R N cap o x ρ w I) : ∃ p, FG0 p R N cap o x ρ w I := by
  have F := h.facts hin hi
  obtain ⟨i, ⟨W, st, kd, wd, vl, ch, stb, kdb, wdb, vlb, chb, f, n, c0, c1, c2, c3, p0, q0, p1, q1, p2, q2, p3, q3, d0, d1, d2, d3⟩, ch', f0, f1, f2, f3⟩ := x
  dsimp only at hin hi ha hb hc hr F
  subst hc
  have b := h.b
  obtain ⟨hin1, hi1, ewi, ewc, r1, r2, hl, hl16, w0, w1, s0, s1, n0, n1⟩ := F
  have n2 : n < 1000000 := by omega
  have hcm := a3_cases (o i).2
  have ok : WOk R ⟨epW (W.getD 7 0), 1, 0, 0, 0, 0, false, List.replicate (1 + a3 (o i).2).toNat (n + 1)⟩ := wok_new r1 (by omega) (by omega) (by omega) (by omega)
  have aft := wAft (st := st) ok b.hw
  rw [hr] at aft
  have hLn : r.W.length = 21 := aft.hl.trans hl
  have hLr := hLn.symm
  have hWn := aft.hw
  obtain ⟨hcm0, okn⟩ := aft.go e0
  have hun := aft.un (by simp [e2])
  refine ⟨⟨f, none, c1, false, 0, true, 0, r, r00⟩, ?_⟩
  have hX := hXTu ⟨f, none, c1, false, 0, true, 0, r, r00⟩
  dsimp only [FG0, fsT, fsH, wdH]
  refine sxb hX [.r 11] [] 4000 rfl (by first | exact trivial | simp [conjP]) ?_
  refine sxb hX [.r 11] [.T, .T] 4000 rfl (by simp [conjP, hin, hin1, hi1, hb]) ?_
  simp only [Int.toNat_natCast, ha]
  refine sx hX [] 4000 rfl (by (simp [-List.getD_eq_getElem?_getD, -List.length_eq_zero_iff, conjP] <;> (first | omega | ((repeat' (refine And.intro ?_ ?_)) <;> (first | omega | exact decide_eq_false (by omega) | exact decide_eq_true (by omega)))))) ?_
  refine sx hX [.F] 4000 rfl (by (simp [-List.getD_eq_getElem?_getD, -List.length_eq_zero_iff, conjP, hin, hin1, r1, r2, hl, w0, w1, s0, s1, n0, n2, wrP, ok, hr, e0] <;> (first | omega | ((repeat' (refine And.intro ?_ ?_)) <;> (first | omega | exact decide_eq_false (by omega) | exact decide_eq_true (by omega)))))) ?_
  refine sx hX [.K, .T] 4000 rfl (by (simp [-List.getD_eq_getElem?_getD, -List.length_eq_zero_iff, conjP, getH, HE.so, r1, r2, e1, hLn] <;> (first | omega | ((repeat' (refine And.intro ?_ ?_)) <;> (first | omega | exact decide_eq_false (by omega) | exact decide_eq_true (by omega)))))) ?_
  refine sx hX [.F] 4000 rfl (by (simp [-List.getD_eq_getElem?_getD, -List.length_eq_zero_iff, conjP, getH, HE.so, e2, hLn] <;> (first | omega | ((repeat' (refine And.intro ?_ ?_)) <;> (first | omega | exact decide_eq_false (by omega) | exact decide_eq_true (by omega)))))) ?_
  (simp only [hcm0]; refine ss_raw hX 8 2 rfl rfl fun v => ?_; refine J _ ⟨i + 1, ⟨r.W, st + 1, r.kd, r.wd, r.vl, r.ch, stb, kdb, wdb, vlb, chb, true, n + 1, some ⟨(epW (W.getD 7 0)), r.nx, r.sn, r.fl, r.tm, r.i, r.hd, (List.replicate (1 + a3 (o i).2).toNat (n + 1))⟩, c1, c2, c3, v, q0, p1, q1, p2, q2, p3, q3, n + 1, d1, d2, d3⟩, ch', ch', f1, f2, f3⟩ ?iv rfl _ _ _ (sub_of [0, 1, 2, 3, 4, 5, 25, 7, 8, 9, 10, 11, 21, 22, 14, 15, 16, 17, 18, 19, 20] rfl rfl rfl rfl ?tt ?hh (by (repeat' (first | exact rfl | exact trivial | exact sim_refl _ | refine And.intro ?_ ?_))) ?ok); (case tt => simp only [ewi]; (repeat' (first | exact rfl | exact trivial | exact sim_refl _ | refine And.intro ?_ ?_)); done); (case hh => (((repeat' (first | exact rfl | exact trivial | exact sim_refl _ | exact simO_refl _ | exact subE_same rfl ren_wlE | exact subE_same rfl ren_rlE | exact subE_same rfl ren_bwE | exact subE_wrE rfl rfl | exact subE_rdE rfl rfl | exact sim_wrP rfl | exact sim_rdP rfl | exact sim_bsV rfl | assumption | refine And.intro ?_ ?_)); done))); (case ok => (((repeat' (first | exact rfl | exact trivial | exact okE_wlE | exact okE_rlE | exact okE_bwE | exact okE_wrE rfl | exact okE_rdE rfl | exact okP_wrP (i := 13) rfl | exact okP_wrP (i := 15) rfl | exact okP_rdP (i := 17) rfl | exact okP_rdP (i := 19) rfl | refine And.intro ?_ ?_)); done))); (case iv => exact FInv.next h (BInv.nx b hLn hWn (okn) (b.o1) (b.o2) (b.o3)) (by dsimp only; omega) (by dsimp only; omega) (.inl rfl) (.inr rfl) (.inl rfl) (.inl rfl) (.inl rfl) (fun _ q s hs hn => hun.trans (h.l2 q s hs hn)) (fun _ q s hs hn => hun.trans (h.l3 q s hs hn))))
set_option maxHeartbeats 4000000 in
theorem wt0iD (h : FInv R N x) (hin : x.i < N) (hi : x.i < 150) (ha : a3 (o x.i).1 = 0) (hb : bkB (o x.i).1 (o x.i).2 (hdO x.z.c0) (hdO x.z.c1) = false) {r : WR} (hc : x.z.c0 = none) (hr : wStep R ⟨epW (x.z.W.getD 7 0), 1, 0, 0, 0, 0, false, List.replicate (1 + a3 (o x.i).2).toNat (x.z.n + 1)⟩ x.z.W x.z.st = r) (e0 : r.k = 1) (e1 : r.wd = 7) (e2 : r.ch = false)
    (J : ∀ p, FJ0 p R N cap o x ρ w I) : ∃ p, FG0 p R N cap o x ρ w I := by
  have F := h.facts hin hi
  obtain ⟨i, ⟨W, st, kd, wd, vl, ch, stb, kdb, wdb, vlb, chb, f, n, c0, c1, c2, c3, p0, q0, p1, q1, p2, q2, p3, q3, d0, d1, d2, d3⟩, ch', f0, f1, f2, f3⟩ := x
  dsimp only at hin hi ha hb hc hr F
  subst hc
  have b := h.b
  obtain ⟨hin1, hi1, ewi, ewc, r1, r2, hl, hl16, w0, w1, s0, s1, n0, n1⟩ := F
  have n2 : n < 1000000 := by omega
  have hcm := a3_cases (o i).2
  have ok : WOk R ⟨epW (W.getD 7 0), 1, 0, 0, 0, 0, false, List.replicate (1 + a3 (o i).2).toNat (n + 1)⟩ := wok_new r1 (by omega) (by omega) (by omega) (by omega)
  have aft := wAft (st := st) ok b.hw
  rw [hr] at aft
  have hLn : r.W.length = 21 := aft.hl.trans hl
  have hLr := hLn.symm
  have hWn := aft.hw
  have hun := aft.un (by simp [e2])
  refine ⟨⟨f, none, c1, false, 0, true, 1, r, r00⟩, ?_⟩
  have hX := hXTu ⟨f, none, c1, false, 0, true, 1, r, r00⟩
  dsimp only [FG0, fsT, fsH, wdH]
  refine sxb hX [.r 11] [] 4000 rfl (by first | exact trivial | simp [conjP]) ?_
  refine sxb hX [.r 11] [.T, .T] 4000 rfl (by simp [conjP, hin, hin1, hi1, hb]) ?_
  simp only [Int.toNat_natCast, ha]
  refine sx hX [] 4000 rfl (by (simp [-List.getD_eq_getElem?_getD, -List.length_eq_zero_iff, conjP] <;> (first | omega | ((repeat' (refine And.intro ?_ ?_)) <;> (first | omega | exact decide_eq_false (by omega) | exact decide_eq_true (by omega)))))) ?_
  refine sx hX [.F] 4000 rfl (by (simp [-List.getD_eq_getElem?_getD, -List.length_eq_zero_iff, conjP, hin, hin1, r1, r2, hl, w0, w1, s0, s1, n0, n2, wrP, ok, hr, e0] <;> (first | omega | ((repeat' (refine And.intro ?_ ?_)) <;> (first | omega | exact decide_eq_false (by omega) | exact decide_eq_true (by omega)))))) ?_
  refine sx hX [.K, .T] 4000 rfl (by (simp [-List.getD_eq_getElem?_getD, -List.length_eq_zero_iff, conjP, getH, HE.so, r1, r2, e1, hLn] <;> (first | omega | ((repeat' (refine And.intro ?_ ?_)) <;> (first | omega | exact decide_eq_false (by omega) | exact decide_eq_true (by omega)))))) ?_
  refine sx hX [.F] 4000 rfl (by (simp [-List.getD_eq_getElem?_getD, -List.length_eq_zero_iff, conjP, getH, HE.so, e2, hLn] <;> (first | omega | ((repeat' (refine And.intro ?_ ?_)) <;> (first | omega | exact decide_eq_false (by omega) | exact decide_eq_true (by omega)))))) ?_
  (refine ss_raw hX 8 2 rfl rfl fun v => ?_; refine J _ ⟨i + 1, ⟨r.W, st + 1, r.kd, r.wd, r.vl, r.ch, stb, kdb, wdb, vlb, chb, true, n + 1, none, c1, c2, c3, v, q0, p1, q1, p2, q2, p3, q3, n + 1, d1, d2, d3⟩, ch', ch', f1, f2, f3⟩ ?iv rfl _ _ _ (sub_of [0, 1, 2, 3, 4, 5, 25, 7, 8, 9, 10, 11, 60, 61, 14, 15, 16, 17, 18, 19, 20] rfl rfl rfl rfl ?tt ?hh (by (repeat' (first | exact rfl | exact trivial | exact sim_refl _ | refine And.intro ?_ ?_))) ?ok); (case tt => simp only [ewi]; (repeat' (first | exact rfl | exact trivial | exact sim_refl _ | refine And.intro ?_ ?_)); done); (case hh => (((repeat' (first | exact rfl | exact trivial | exact sim_refl _ | exact simO_refl _ | exact subE_same rfl ren_wlE | exact subE_same rfl ren_rlE | exact subE_same rfl ren_bwE | exact subE_wrE rfl rfl | exact subE_rdE rfl rfl | exact sim_wrP rfl | exact sim_rdP rfl | exact sim_bsV rfl | assumption | refine And.intro ?_ ?_)); done))); (case ok => (((repeat' (first | exact rfl | exact trivial | exact okE_wlE | exact okE_rlE | exact okE_bwE | exact okE_wrE rfl | exact okE_rdE rfl | exact okP_wrP (i := 13) rfl | exact okP_wrP (i := 15) rfl | exact okP_rdP (i := 17) rfl | exact okP_rdP (i := 19) rfl | refine And.intro ?_ ?_)); done))); (case iv => exact FInv.next h (BInv.nx b hLn hWn (trivial) (b.o1) (b.o2) (b.o3)) (by dsimp only; omega) (by dsimp only; omega) (.inl rfl) (.inr rfl) (.inl rfl) (.inl rfl) (.inl rfl) (fun _ q s hs hn => hun.trans (h.l2 q s hs hn)) (fun _ q s hs hn => hun.trans (h.l3 q s hs hn))))
set_option maxHeartbeats 4000000 in
theorem wt0A (h : FInv R N x) (hin : x.i < N) (hi : x.i < 150) (ha : a3 (o x.i).1 = 0) (hb : bkB (o x.i).1 (o x.i).2 (hdO x.z.c0) (hdO x.z.c1) = false) {r : WR} {ep nx sn fl tm ii : Int} {hd : Bool} {l : List Int} (hc : x.z.c0 = some ⟨ep, nx, sn, fl, tm, ii, hd, l⟩) (hr : wStep R ⟨ep, nx, sn, fl, tm, ii, hd, l⟩ x.z.W x.z.st = r) (e0 : r.k = 0) (e1 : r.wd = 7) (e2 : r.ch = false)
    (J : ∀ p, FJ0 p R N cap o x ρ w I) : ∃ p, FG0 p R N cap o x ρ w I := by
  have F := h.facts hin hi
  obtain ⟨i, ⟨W, st, kd, wd, vl, ch, stb, kdb, wdb, vlb, chb, f, n, c0, c1, c2, c3, p0, q0, p1, q1, p2, q2, p3, q3, d0, d1, d2, d3⟩, ch', f0, f1, f2, f3⟩ := x
  dsimp only at hin hi ha hb hc hr F
  subst hc
  have b := h.b
  obtain ⟨hin1, hi1, ewi, ewc, r1, r2, hl, hl16, w0, w1, s0, s1, n0, n1⟩ := F
  have n2 : n < 1000000 := by omega
  have hcm := a3_cases (o i).2
  have ok : WOk R ⟨ep, nx, sn, fl, tm, ii, hd, l⟩ := b.o0
  have aft := wAft (st := st) ok b.hw
  rw [hr] at aft
  have hLn : r.W.length = 21 := aft.hl.trans hl
  have hLr := hLn.symm
  have hWn := aft.hw
  obtain ⟨hcm0, okn⟩ := aft.go e0
  have hun := aft.un (by simp [e2])
  refine ⟨⟨f, (some ⟨ep, nx, sn, fl, tm, ii, hd, l⟩), c1, false, 0, false, 0, r, r00⟩, ?_⟩
  have hX := hXTu ⟨f, (some ⟨ep, nx, sn, fl, tm, ii, hd, l⟩), c1, false, 0, false, 0, r, r00⟩
  dsimp only [FG0, fsT, fsH, wdH]
  refine sxb hX [.r 11] [] 4000 rfl (by first | exact trivial | simp [conjP]) ?_
  refine sxb hX [.r 11] [.T, .T] 4000 rfl (by simp [conjP, hin, hin1, hi1, hb]) ?_
  simp only [Int.toNat_natCast, ha]
  refine sx hX [] 4000 rfl (by (simp [-List.getD_eq_getElem?_getD, -List.length_eq_zero_iff, conjP] <;> (first | omega | ((repeat' (refine And.intro ?_ ?_)) <;> (first | omega | exact decide_eq_false (by omega) | exact decide_eq_true (by omega)))))) ?_
  refine sx hX [.F] 4000 rfl (by (simp [-List.getD_eq_getElem?_getD, -List.length_eq_zero_iff, conjP, getH, HE.so, hin, hin1, r1, r2, hl, w0, w1, s0, s1, wrP, wrE, ok, hr, e0] <;> (first | omega | ((repeat' (refine And.intro ?_ ?_)) <;> (first | omega | exact decide_eq_false (by omega) | exact decide_eq_true (by omega)))))) ?_
  refine sx hX [.K, .T] 4000 rfl (by (simp [-List.getD_eq_getElem?_getD, -List.length_eq_zero_iff, conjP, getH, HE.so, r1, r2, e1, hLn] <;> (first | omega | ((repeat' (refine And.intro ?_ ?_)) <;> (first | omega | exact decide_eq_false (by omega) | exact decide_eq_true (by omega)))))) ?_
  refine sx hX [.F] 4000 rfl (by (simp [-List.getD_eq_getElem?_getD, -List.length_eq_zero_iff, conjP, getH, HE.so, e2, hLn] <;> (first | omega | ((repeat' (refine And.intro ?_ ?_)) <;> (first | omega | exact decide_eq_false (by omega) | exact decide_eq_true (by omega)))))) ?_
  (simp only [hcm0]; refine ss_raw hX 8 2 rfl rfl fun v => ?_; refine J _ ⟨i + 1, ⟨r.W, st + 1, r.kd, r.wd, r.vl, r.ch, stb, kdb, wdb, vlb, chb, true, n, some ⟨ep, r.nx, r.sn, r.fl, r.tm, r.i, r.hd, l⟩, c1, c2, c3, v, q0, p1, q1, p2, q2, p3, q3, d0, d1, d2, d3⟩, ch', f0, f1, f2, f3⟩ ?iv rfl _ _ _ (sub_of [0, 1, 2, 3, 4, 5, 21, 7, 8, 9, 10, 11, 12, 13, 14, 15, 16, 17, 18, 19, 20] rfl rfl rfl rfl ?tt ?hh (by (repeat' (first | exact rfl | exact trivial | exact sim_refl _ | refine And.intro ?_ ?_))) ?ok); (case tt => simp only [ewi]; (repeat' (first | exact rfl | exact trivial | exact sim_refl _ | refine And.intro ?_ ?_)); done); (case hh => (((repeat' (first | exact rfl | exact trivial | exact sim_refl _ | exact simO_refl _ | exact subE_same rfl ren_wlE | exact subE_same rfl ren_rlE | exact subE_same rfl ren_bwE | exact subE_wrE rfl rfl | exact subE_rdE rfl rfl | exact sim_wrP rfl | exact sim_rdP rfl | exact sim_bsV rfl | assumption | refine And.intro ?_ ?_)); done))); (case ok => (((repeat' (first | exact rfl | exact trivial | exact okE_wlE | exact okE_rlE | exact okE_bwE | exact okE_wrE rfl | exact okE_rdE rfl | exact okP_wrP (i := 13) rfl | exact okP_wrP (i := 15) rfl | exact okP_rdP (i := 17) rfl | exact okP_rdP (i := 19) rfl | refine And.intro ?_ ?_)); done))); (case iv => exact FInv.next h (BInv.nx b hLn hWn (okn) (b.o1) (b.o2) (b.o3)) (by dsimp only; omega) (by dsimp only; omega) (.inl rfl) (.inl rfl) (.inl rfl) (.inl rfl) (.inl rfl) (fun _ q s hs hn => hun.trans (h.l2 q s hs hn)) (fun _ q s hs hn => hun.trans (h.l3 q s hs hn))))
set_option maxHeartbeats 4000000 in
theorem wt0D (h : FInv R N x) (hin : x.i < N) (hi : x.i < 150) (ha : a3 (o x.i).1 = 0) (hb : bkB (o x.i).1 (o x.i).2 (hdO x.z.c0) (hdO x.z.c1) = false) {r : WR} {ep nx sn fl tm ii : Int} {hd : Bool} {l : List Int} (hc : x.z.c0 = some ⟨ep, nx, sn, fl, tm, ii, hd, l⟩) (hr : wStep R ⟨ep, nx, sn, fl, tm, ii, hd, l⟩ x.z.W x.z.st = r) (e0 : r.k = 1) (e1 : r.wd = 7) (e2 : r.ch = false)
    (J : ∀ p, FJ0 p R N cap o x ρ w I) : ∃ p, FG0 p R N cap o x ρ w I := by
  have F := h.facts hin hi
  obtain ⟨i, ⟨W, st, kd, wd, vl, ch, stb, kdb, wdb, vlb, chb, f, n, c0, c1, c2, c3, p0, q0, p1, q1, p2, q2, p3, q3, d0, d1, d2, d3⟩, ch', f0, f1, f2, f3⟩ := x
  dsimp only at hin hi ha hb hc hr F
  subst hc
  have b := h.b
  obtain ⟨hin1, hi1, ewi, ewc, r1, r2, hl, hl16, w0, w1, s0, s1, n0, n1⟩ := F
  have n2 : n < 1000000 := by omega
  have hcm := a3_cases (o i).2
  have ok : WOk R ⟨ep, nx, sn, fl, tm, ii, hd, l⟩ := b.o0
  have aft := wAft (st := st) ok b.hw
  rw [hr] at aft
  have hLn : r.W.length = 21 := aft.hl.trans hl
  have hLr := hLn.symm
  have hWn := aft.hw
  have hun := aft.un (by simp [e2])
  refine ⟨⟨f, (some ⟨ep, nx, sn, fl, tm, ii, hd, l⟩), c1, false, 0, false, 1, r, r00⟩, ?_⟩
  have hX := hXTu ⟨f, (some ⟨ep, nx, sn, fl, tm, ii, hd, l⟩), c1, false, 0, false, 1, r, r00⟩
  dsimp only [FG0, fsT, fsH, wdH]
  refine sxb hX [.r 11] [] 4000 rfl (by first | exact trivial | simp [conjP]) ?_
  refine sxb hX [.r 11] [.T, .T] 4000 rfl (by simp [conjP, hin, hin1, hi1, hb]) ?_
  simp only [Int.toNat_natCast, ha]
  refine sx hX [] 4000 rfl (by (simp [-List.getD_eq_getElem?_getD, -List.length_eq_zero_iff, conjP] <;> (first | omega | ((repeat' (refine And.intro ?_ ?_)) <;> (first | omega | exact decide_eq_false (by omega) | exact decide_eq_true (by omega)))))) ?_
  refine sx hX [.F] 4000 rfl (by (simp [-List.getD_eq_getElem?_getD, -List.length_eq_zero_iff, conjP, getH, HE.so, hin, hin1, r1, r2, hl, w0, w1, s0, s1, wrP, wrE, ok, hr, e0] <;> (first | omega | ((repeat' (refine And.intro ?_ ?_)) <;> (first | omega | exact decide_eq_false (by omega) | exact decide_eq_true (by omega)))))) ?_
  refine sx hX [.K, .T] 4000 rfl (by (simp [-List.getD_eq_getElem?_getD, -List.length_eq_zero_iff, conjP, getH, HE.so, r1, r2, e1, hLn] <;> (first | omega | ((repeat' (refine And.intro ?_ ?_)) <;> (first | omega | exact decide_eq_false (by omega) | exact decide_eq_true (by omega)))))) ?_
  refine sx hX [.F] 4000 rfl (by (simp [-List.getD_eq_getElem?_getD, -List.length_eq_zero_iff, conjP, getH, HE.so, e2, hLn] <;> (first | omega | ((repeat' (refine And.intro ?_ ?_)) <;> (first | omega | exact decide_eq_false (by omega) | exact decide_eq_true (by omega)))))) ?_
  (refine ss_raw hX 8 2 rfl rfl fun v => ?_; refine J _ ⟨i + 1, ⟨r.W, st + 1, r.kd, r.wd, r.vl, r.ch, stb, kdb, wdb, vlb, chb, true, n, none, c1, c2, c3, v, q0, p1, q1, p2, q2, p3, q3, d0, d1, d2, d3⟩, ch', f0, f1, f2, f3⟩ ?iv rfl _ _ _ (sub_of [0, 1, 2, 3, 4, 5, 21, 7, 8, 9, 10, 11, 60, 61, 14, 15, 16, 17, 18, 19, 20] rfl rfl rfl rfl ?tt ?hh (by (repeat' (first | exact rfl | exact trivial | exact sim_refl _ | refine And.intro ?_ ?_))) ?ok); (case tt => simp only [ewi]; (repeat' (first | exact rfl | exact trivial | exact sim_refl _ | refine And.intro ?_ ?_)); done); (case hh => (((repeat' (first | exact rfl | exact trivial | exact sim_refl _ | exact simO_refl _ | exact subE_same rfl ren_wlE | exact subE_same rfl ren_rlE | exact subE_same rfl ren_bwE | exact subE_wrE rfl rfl | exact subE_rdE rfl rfl | exact sim_wrP rfl | exact sim_rdP rfl | exact sim_bsV rfl | assumption | refine And.intro ?_ ?_)); done))); (case ok => (((repeat' (first | exact rfl | exact trivial | exact okE_wlE | exact okE_rlE | exact okE_bwE | exact okE_wrE rfl | exact okE_rdE rfl | exact okP_wrP (i := 13) rfl | exact okP_wrP (i := 15) rfl | exact okP_rdP (i := 17) rfl | exact okP_rdP (i := 19) rfl | refine And.intro ?_ ?_)); done))); (case iv => exact FInv.next h (BInv.nx b hLn hWn (trivial) (b.o1) (b.o2) (b.o3)) (by dsimp only; omega) (by dsimp only; omega) (.inl rfl) (.inl rfl) (.inl rfl) (.inl rfl) (.inl rfl) (fun _ q s hs hn => hun.trans (h.l2 q s hs hn)) (fun _ q s hs hn => hun.trans (h.l3 q s hs hn))))
set_option maxHeartbeats 4000000 in
theorem wt0B (h : FInv R N x) (hin : x.i < N) (hi : x.i < 150) (ha : a3 (o x.i).1 = 0) (hb : bkB (o x.i).1 (o x.i).2 (hdO x.z.c0) (hdO x.z.c1) = false) {r : WR} {ep nx sn fl tm ii : Int} {hd : Bool} {l : List Int} (hc : x.z.c0 = some ⟨ep, nx, sn, fl, tm, ii, hd, l⟩) (hr : wStep R ⟨ep, nx, sn, fl, tm, ii, hd, l⟩ x.z.W x.z.st = r) (e0 : r.k = 0) (e1 : r.wd = 7) (e2 : r.ch = true)
    (J : ∀ p, FJ0 p R N cap o x ρ w I) : ∃ p, FG0 p R N cap o x ρ w I := by
  have F := h.facts hin hi
  obtain ⟨i, ⟨W, st, kd, wd, vl, ch, stb, kdb, wdb, vlb, chb, f, n, c0, c1, c2, c3, p0, q0, p1, q1, p2, q2, p3, q3, d0, d1, d2, d3⟩, ch', f0, f1, f2, f3⟩ := x
  dsimp only at hin hi ha hb hc hr F
  subst hc
  have b := h.b
  obtain ⟨hin1, hi1, ewi, ewc, r1, r2, hl, hl16, w0, w1, s0, s1, n0, n1⟩ := F
  have n2 : n < 1000000 := by omega
  have hcm := a3_cases (o i).2
  have ok : WOk R ⟨ep, nx, sn, fl, tm, ii, hd, l⟩ := b.o0
  have aft := wAft (st := st) ok b.hw
  rw [hr] at aft
  have hLn : r.W.length = 21 := aft.hl.trans hl
  have hLr := hLn.symm
  have hWn := aft.hw
  obtain ⟨hcm0, okn⟩ := aft.go e0
  refine ⟨⟨f, (some ⟨ep, nx, sn, fl, tm, ii, hd, l⟩), c1, false, 0, false, 0, r, r00⟩, ?_⟩
  have hX := hXTu ⟨f, (some ⟨ep, nx, sn, fl, tm, ii, hd, l⟩), c1, false, 0, false, 0, r, r00⟩
  dsimp only [FG0, fsT, fsH, wdH]
  refine sxb hX [.r 11] [] 4000 rfl (by first | exact trivial | simp [conjP]) ?_
  refine sxb hX [.r 11] [.T, .T] 4000 rfl (by simp [conjP, hin, hin1, hi1, hb]) ?_
  simp only [Int.toNat_natCast, ha]
  refine sx hX [] 4000 rfl (by (simp [-List.getD_eq_getElem?_getD, -List.length_eq_zero_iff, conjP] <;> (first | omega | ((repeat' (refine And.intro ?_ ?_)) <;> (first | omega | exact decide_eq_false (by omega) | exact decide_eq_true (by omega)))))) ?_
  refine sx hX [.F] 4000 rfl (by (simp [-List.getD_eq_getElem?_getD, -List.length_eq_zero_iff, conjP, getH, HE.so, hin, hin1, r1, r2, hl, w0, w1, s0, s1, wrP, wrE, ok, hr, e0] <;> (first | omega | ((repeat' (refine And.intro ?_ ?_)) <;> (first | omega | exact decide_eq_false (by omega) | exact decide_eq_true (by omega)))))) ?_
  refine sx hX [.K, .T] 4000 rfl (by (simp [-List.getD_eq_getElem?_getD, -List.length_eq_zero_iff, conjP, getH, HE.so, r1, r2, e1, hLn] <;> (first | omega | ((repeat' (refine And.intro ?_ ?_)) <;> (first | omega | exact decide_eq_false (by omega) | exact decide_eq_true (by omega)))))) ?_
  refine sx hX [.T] 4000 rfl (by (simp [-List.getD_eq_getElem?_getD, -List.length_eq_zero_iff, conjP, getH, HE.so, e2, hLn] <;> (first | omega | ((repeat' (refine And.intro ?_ ?_)) <;> (first | omega | exact decide_eq_false (by omega) | exact decide_eq_true (by omega)))))) ?_
  (simp only [hcm0]; refine ss_raw hX 8 2 rfl rfl fun v => ?_; refine J _ ⟨i + 1, ⟨r.W, st + 1, r.kd, r.wd, r.vl, r.ch, stb, kdb, wdb, vlb, chb, true, n, some ⟨ep, r.nx, r.sn, r.fl, r.tm, r.i, r.hd, l⟩, c1, c2, c3, v, q0, p1, q1, p2, q2, p3, q3, d0, d1, d2, d3⟩, ch' + 1, f0, f1, f2, f3⟩ ?iv rfl _ _ _ (sub_of [0, 1, 2, 3, 4, 5, 21, 7, 8, 9, 10, 11, 12, 13, 14, 15, 16, 17, 18, 19, 20] rfl rfl rfl rfl ?tt ?hh (by (repeat' (first | exact rfl | exact trivial | exact sim_refl _ | refine And.intro ?_ ?_))) ?ok); (case tt => simp only [ewi, ewc]; (repeat' (first | exact rfl | exact trivial | exact sim_refl _ | refine And.intro ?_ ?_)); done); (case hh => (((repeat' (first | exact rfl | exact trivial | exact sim_refl _ | exact simO_refl _ | exact subE_same rfl ren_wlE | exact subE_same rfl ren_rlE | exact subE_same rfl ren_bwE | exact subE_wrE rfl rfl | exact subE_rdE rfl rfl | exact sim_wrP rfl | exact sim_rdP rfl | exact sim_bsV rfl | assumption | refine And.intro ?_ ?_)); done))); (case ok => (((repeat' (first | exact rfl | exact trivial | exact okE_wlE | exact okE_rlE | exact okE_bwE | exact okE_wrE rfl | exact okE_rdE rfl | exact okP_wrP (i := 13) rfl | exact okP_wrP (i := 15) rfl | exact okP_rdP (i := 17) rfl | exact okP_rdP (i := 19) rfl | refine And.intro ?_ ?_)); done))); (case iv => exact FInv.next h (BInv.nx b hLn hWn (okn) (b.o1) (b.o2) (b.o3)) (by dsimp only; omega) (by dsimp only; omega) (.inr rfl) (.inl rfl) (.inl rfl) (.inl rfl) (.inl rfl) (fun q => absurd (show ch' + 1 = ch' from q) (by omega)) (fun q => absurd (show ch' + 1 = ch' from q) (by omega))))
set_option maxHeartbeats 4000000 in
theorem wt0C (h : FInv R N x) (hin : x.i < N) (hi : x.i < 150) (ha : a3 (o x.i).1 = 0) (hb : bkB (o x.i).1 (o x.i).2 (hdO x.z.c0) (hdO x.z.c1) = false) {r : WR} {ep nx sn fl tm ii : Int} {hd : Bool} {l : List Int} (hc : x.z.c0 = some ⟨ep, nx, sn, fl, tm, ii, hd, l⟩) (hr : wStep R ⟨ep, nx, sn, fl, tm, ii, hd, l⟩ x.z.W x.z.st = r) (e0 : r.k = 0) (e1 : ¬ r.wd = 7)
    (J : ∀ p, FJ0 p R N cap o x ρ w I) : ∃ p, FG0 p R N cap o x ρ w I := by
  have F := h.facts hin hi
  obtain ⟨i, ⟨W, st, kd, wd, vl, ch, stb, kdb, wdb, vlb, chb, f, n, c0, c1, c2, c3, p0, q0, p1, q1, p2, q2, p3, q3, d0, d1, d2, d3⟩, ch', f0, f1, f2, f3⟩ := x
  dsimp only at hin hi ha hb hc hr F
  subst hc
  have b := h.b
  obtain ⟨hin1, hi1, ewi, ewc, r1, r2, hl, hl16, w0, w1, s0, s1, n0, n1⟩ := F
  have n2 : n < 1000000 := by omega
  have hcm := a3_cases (o i).2
  have ok : WOk R ⟨ep, nx, sn, fl, tm, ii, hd, l⟩ := b.o0
  have aft := wAft (st := st) ok b.hw
  rw [hr] at aft
  have hLn : r.W.length = 21 := aft.hl.trans hl
  have hLr := hLn.symm
  have hWn := aft.hw
  obtain ⟨hcm0, okn⟩ := aft.go e0
  have hun := aft.un (fun q => e1 q.1)
  refine ⟨⟨f, (some ⟨ep, nx, sn, fl, tm, ii, hd, l⟩), c1, false, 0, false, 0, r, r00⟩, ?_⟩
  have hX := hXTu ⟨f, (some ⟨ep, nx, sn, fl, tm, ii, hd, l⟩), c1, false, 0, false, 0, r, r00⟩
  dsimp only [FG0, fsT, fsH, wdH]
  refine sxb hX [.r 11] [] 4000 rfl (by first | exact trivial | simp [conjP]) ?_
  refine sxb hX [.r 11] [.T, .T] 4000 rfl (by simp [conjP, hin, hin1, hi1, hb]) ?_
  simp only [Int.toNat_natCast, ha]
  refine sx hX [] 4000 rfl (by (simp [-List.getD_eq_getElem?_getD, -List.length_eq_zero_iff, conjP] <;> (first | omega | ((repeat' (refine And.intro ?_ ?_)) <;> (first | omega | exact decide_eq_false (by omega) | exact decide_eq_true (by omega)))))) ?_
  refine sx hX [.F] 4000 rfl (by (simp [-List.getD_eq_getElem?_getD, -List.length_eq_zero_iff, conjP, getH, HE.so, hin, hin1, r1, r2, hl, w0, w1, s0, s1, wrP, wrE, ok, hr, e0] <;> (first | omega | ((repeat' (refine And.intro ?_ ?_)) <;> (first | omega | exact decide_eq_false (by omega) | exact decide_eq_true (by omega)))))) ?_
  refine sx hX [.K, .F] 4000 rfl (by (simp [-List.getD_eq_getElem?_getD, -List.length_eq_zero_iff, conjP, getH, HE.so, r1, r2, e1, hLn] <;> (first | omega | ((repeat' (refine And.intro ?_ ?_)) <;> (first | omega | exact decide_eq_false (by omega) | exact decide_eq_true (by omega)))))) ?_
  (simp only [hcm0]; refine ss_raw hX 8 2 rfl rfl fun v => ?_; refine J _ ⟨i + 1, ⟨r.W, st + 1, r.kd, r.wd, r.vl, r.ch, stb, kdb, wdb, vlb, chb, true, n, some ⟨ep, r.nx, r.sn, r.fl, r.tm, r.i, r.hd, l⟩, c1, c2, c3, v, q0, p1, q1, p2, q2, p3, q3, d0, d1, d2, d3⟩, ch', f0, f1, f2, f3⟩ ?iv rfl _ _ _ (sub_of [0, 1, 2, 3, 4, 5, 21, 7, 8, 9, 10, 11, 12, 13, 14, 15, 16, 17, 18, 19, 20] rfl rfl rfl rfl ?tt ?hh (by (repeat' (first | exact rfl | exact trivial | exact sim_refl _ | refine And.intro ?_ ?_))) ?ok); (case tt => simp only [ewi]; (repeat' (first | exact rfl | exact trivial | exact sim_refl _ | refine And.intro ?_ ?_)); done); (case hh => (((repeat' (first | exact rfl | exact trivial | exact sim_refl _ | exact simO_refl _ | exact subE_same rfl ren_wlE | exact subE_same rfl ren_rlE | exact subE_same rfl ren_bwE | exact subE_wrE rfl rfl | exact subE_rdE rfl rfl | exact sim_wrP rfl | exact sim_rdP rfl | exact sim_bsV rfl | assumption | refine And.intro ?_ ?_)); done))); (case ok => (((repeat' (first | exact rfl | exact trivial | exact okE_wlE | exact okE_rlE | exact okE_bwE | exact okE_wrE rfl | exact okE_rdE rfl | exact okP_wrP (i := 13) rfl | exact okP_wrP (i := 15) rfl | exact okP_rdP (i := 17) rfl | exact okP_rdP (i := 19) rfl | refine And.intro ?_ ?_)); done))); (case iv => exact FInv.next h (BInv.nx b hLn hWn (okn) (b.o1) (b.o2) (b.o3)) (by dsimp only; omega) (by dsimp only; omega) (.inl rfl) (.inl rfl) (.inl rfl) (.inl rfl) (.inl rfl) (fun _ q s hs hn => hun.trans (h.l2 q s hs hn)) (fun _ q s hs hn => hun.trans (h.l3 q s hs hn))))
set_option maxHeartbeats 4000000 in
theorem wt0E (h : FInv R N x) (hin : x.i < N) (hi : x.i < 150) (ha : a3 (o x.i).1 = 0) (hb : bkB (o x.i).1 (o x.i).2 (hdO x.z.c0) (hdO x.z.c1) = false) {r : WR} {ep nx sn fl tm ii : Int} {hd : Bool} {l : List Int} (hc : x.z.c0 = some ⟨ep, nx, sn, fl, tm, ii, hd, l⟩) (hr : wStep R ⟨ep, nx, sn, fl, tm, ii, hd, l⟩ x.z.W x.z.st = r) (e0 : r.k = 2) (e1 : r.wd = 7) (e2 : r.ch = true)
    (J : ∀ p, FJ0 p R N cap o x ρ w I) : ∃ p, FG0 p R N cap o x ρ w I := by
  have F := h.facts hin hi
  obtain ⟨i, ⟨W, st, kd, wd, vl, ch, stb, kdb, wdb, vlb, chb, f, n, c0, c1, c2, c3, p0, q0, p1, q1, p2, q2, p3, q3, d0, d1, d2, d3⟩, ch', f0, f1, f2, f3⟩ := x
  dsimp only at hin hi ha hb hc hr F
  subst hc
  have b := h.b
  obtain ⟨hin1, hi1, ewi, ewc, r1, r2, hl, hl16, w0, w1, s0, s1, n0, n1⟩ := F
  have n2 : n < 1000000 := by omega
  have hcm := a3_cases (o i).2
  have ok : WOk R ⟨ep, nx, sn, fl, tm, ii, hd, l⟩ := b.o0
  have aft := wAft (st := st) ok b.hw
  rw [hr] at aft
  have hLn : r.W.length = 21 := aft.hl.trans hl
  have hLr := hLn.symm
  have hWn := aft.hw
  refine ⟨⟨f, (some ⟨ep, nx, sn, fl, tm, ii, hd, l⟩), c1, false, 0, false, 2, r, r00⟩, ?_⟩
  have hX := hXTu ⟨f, (some ⟨ep, nx, sn, fl, tm, ii, hd, l⟩), c1, false, 0, false, 2, r, r00⟩
  dsimp only [FG0, fsT, fsH, wdH]
  refine sxb hX [.r 11] [] 4000 rfl (by first | exact trivial | simp [conjP]) ?_
  refine sxb hX [.r 11] [.T, .T] 4000 rfl (by simp [conjP, hin, hin1, hi1, hb]) ?_
  simp only [Int.toNat_natCast, ha]
  refine sx hX [] 4000 rfl (by (simp [-List.getD_eq_getElem?_getD, -List.length_eq_zero_iff, conjP] <;> (first | omega | ((repeat' (refine And.intro ?_ ?_)) <;> (first | omega | exact decide_eq_false (by omega) | exact decide_eq_true (by omega)))))) ?_
  refine sx hX [.F] 4000 rfl (by (simp [-List.getD_eq_getElem?_getD, -List.length_eq_zero_iff, conjP, getH, HE.so, hin, hin1, r1, r2, hl, w0, w1, s0, s1, wrP, wrE, ok, hr, e0] <;> (first | omega | ((repeat' (refine And.intro ?_ ?_)) <;> (first | omega | exact decide_eq_false (by omega) | exact decide_eq_true (by omega)))))) ?_
  refine sx hX [.K, .T] 4000 rfl (by (simp [-List.getD_eq_getElem?_getD, -List.length_eq_zero_iff, conjP, getH, HE.so, r1, r2, e1, hLn] <;> (first | omega | ((repeat' (refine And.intro ?_ ?_)) <;> (first | omega | exact decide_eq_false (by omega) | exact decide_eq_true (by omega)))))) ?_
  refine sx hX [.T] 4000 rfl (by (simp [-List.getD_eq_getElem?_getD, -List.length_eq_zero_iff, conjP, getH, HE.so, e2, hLn] <;> (first | omega | ((repeat' (refine And.intro ?_ ?_)) <;> (first | omega | exact decide_eq_false (by omega) | exact decide_eq_true (by omega)))))) ?_
  (refine ss_raw hX 8 2 rfl rfl fun v => ?_; refine J _ ⟨i + 1, ⟨r.W, st + 1, r.kd, r.wd, r.vl, r.ch, stb, kdb, wdb, vlb, chb, true, n, none, c1, c2, c3, v, q0, p1, q1, p2, q2, p3, q3, d0, d1, d2, d3⟩, ch' + 1, f0, f1, f2, f3⟩ ?iv rfl _ _ _ (sub_of [0, 1, 2, 3, 4, 5, 21, 7, 8, 9, 10, 11, 60, 61, 14, 15, 16, 17, 18, 19, 20] rfl rfl rfl rfl ?tt ?hh (by (repeat' (first | exact rfl | exact trivial | exact sim_refl _ | refine And.intro ?_ ?_))) ?ok); (case tt => simp only [ewi, ewc]; (repeat' (first | exact rfl | exact trivial | exact sim_refl _ | refine And.intro ?_ ?_)); done); (case hh => (((repeat' (first | exact rfl | exact trivial | exact sim_refl _ | exact simO_refl _ | exact subE_same rfl ren_wlE | exact subE_same rfl ren_rlE | exact subE_same rfl ren_bwE | exact subE_wrE rfl rfl | exact subE_rdE rfl rfl | exact sim_wrP rfl | exact sim_rdP rfl | exact sim_bsV rfl | assumption | refine And.intro ?_ ?_)); done))); (case ok => (((repeat' (first | exact rfl | exact trivial | exact okE_wlE | exact okE_rlE | exact okE_bwE | exact okE_wrE rfl | exact okE_rdE rfl | exact okP_wrP (i := 13) rfl | exact okP_wrP (i := 15) rfl | exact okP_rdP (i := 17) rfl | exact okP_rdP (i := 19) rfl | refine And.intro ?_ ?_)); done))); (case iv => exact FInv.next h (BInv.nx b hLn hWn (trivial) (b.o1) (b.o2) (b.o3)) (by dsimp only; omega) (by dsimp only; omega) (.inr rfl) (.inl rfl) (.inl rfl) (.inl rfl) (.inl rfl) (fun q => absurd (show ch' + 1 = ch' from q) (by omega)) (fun q => absurd (show ch' + 1 = ch' from q) (by omega))))
end
end Go.Proofs.YtmghcelohnlceaaGreatDoor
