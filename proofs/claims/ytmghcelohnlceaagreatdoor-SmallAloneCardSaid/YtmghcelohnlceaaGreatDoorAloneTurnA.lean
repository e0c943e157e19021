/- SmallAlone: the world of a turn. -/
import Derived.Test.YtmghcelohnlceaaGreatDoorAloneHold
namespace Go.Proofs.YtmghcelohnlceaaGreatDoor
open Go Go.Hx
set_option maxRecDepth 8000
structure AS where
  (i : Nat) (z : Wd)
def alT (N cap : Nat) (q : Int) (x : AS) : List (Nat × SV) := [(1, .slice 0 0 N cap), (2, .int .i64 q), (7, .tt), (8, .ptr 2 0), (9, .int .i64 (x.i : Int))]
def alH (N : Nat) (o : Nat → Int × Int) (R : Int) (x : AS) : List HE := wdH (.obj (.rows N 2 (actR o))) R x.z []
structure AInv (R : Int) (N : Nat) (x : AS) : Prop where
  b : BInv R x.i x.z
  hn : x.i ≤ N
  hi : x.i ≤ 100
  m : MI x.z.W x.z.c0 x.z.c1
theorem AInv.facts {R : Int} {N : Nat} {x : AS} (h : AInv R N x) (hin : x.i < N) (hi : x.i < 100) : (x.i : Int) < (N : Int) ∧ (x.i : Int) < 100 ∧ IntKind.i64.wrap ((x.i : Int) + 1) = ((x.i + 1 : Nat) : Int) ∧
    1 ≤ R ∧ R ≤ 8 ∧ x.z.W.length = 21 ∧ 16 ≤ x.z.W.length ∧ 0 ≤ x.z.W.getD 7 0 ∧ x.z.W.getD 7 0 < 18446744073709551616 ∧ 0 ≤ x.z.st ∧ x.z.st < 1000000 ∧ 0 ≤ x.z.n ∧ x.z.n < 1000000 - 1 := by
  have b := h.b
  have h2 := b.s0
  have h3 := b.s1
  have h4 := b.n1
  exact ⟨by omega, by omega, by rw [wi64 (by omega) (by omega)]; omega, b.r1, b.r2, b.hl, by have := b.hl; omega, (b.hw 7).1, (b.hw 7).2, h2, by omega, b.n0, by omega⟩
theorem AInv.next {R : Int} {N : Nat} {x : AS} (_ : AInv R N x) {z' : Wd} (b : BInv R (x.i + 1) z') (hn : x.i + 1 ≤ N) (hi : x.i + 1 ≤ 100) (m : MI z'.W z'.c0 z'.c1) : AInv R N ⟨x.i + 1, z'⟩ := ⟨b, hn, hi, m⟩
end Go.Proofs.YtmghcelohnlceaaGreatDoor

/- SmallAlone: client 0's turns. -/
namespace Go.Proofs.YtmghcelohnlceaaGreatDoor
open Go Go.Hx
set_option maxRecDepth 8000
section
variable {R q : Int} {N cap : Nat} {o : Nat → Int × Int} {x : AS} {ρ : Nat → Nat × Nat} {w : World} {I : Act → World → Prop}
abbrev AJ0 (p : TP) (R q : Int) (N cap : Nat) (o : Nat → Int × Int) (x : AS) (ρ : Nat → Nat × Nat) (w : World) (I : Act → World → Prop) : Prop :=
  ∀ x', AInv R N x' → x'.i = x.i + 1 → ∀ cs T H, Sub (FEnv Tryz.prog (XTu p).TE (hXTu p).te Tryz.f3 Tryz.f3.ntmps [.obj (.rows N 2 (actR o)), pinE RTV] (Is .tt [.obj (.rows N 2 (actR o)), pinE RTV]) ρ w) T H (alT N cap q x') (alH N o R x') →
    SS (hXTu p) (At ρ w) (Is .tt [.obj (.rows N 2 (actR o)), pinE RTV]) ⟨cs, [], Tryz.f3, Tryz.f3.ntmps, [.obj (.rows N 2 (actR o)), pinE RTV], downLp (contF Tryz.f3 6 [I]), T, H⟩
abbrev AG0 (p : TP) (R q : Int) (N cap : Nat) (o : Nat → Int × Int) (x : AS) (ρ : Nat → Nat × Nat) (w : World) (I : Act → World → Prop) : Prop :=
  SS (hXTu p) (At ρ w) (Is .tt [.obj (.rows N 2 (actR o)), pinE RTV]) ⟨[], [], Tryz.f3, Tryz.f3.ntmps, [.obj (.rows N 2 (actR o)), pinE RTV], contF Tryz.f3 6 [I], alT N cap q x, alH N o R x⟩

set_option maxHeartbeats 4000000 in
theorem aw0iA (h : AInv R N x) (hin : x.i < N) (hi : x.i < 100) (ha : a3 (o x.i).1 = 0) (hb : bkB (o x.i).1 (o x.i).2 (hdO x.z.c0) (hdO x.z.c1) = false) {r : WR} (hc : x.z.c0 = none) (hr : wStep R ⟨epW (x.z.W.getD 7 0), 1, 0, 0, 0, 0, false, List.replicate (1 + a3 (o x.i).2).toNat (x.z.n + 1)⟩ x.z.W x.z.st = r) (e0 : r.k = 0)
    (J : ∀ p, AJ0 p R q N cap o x ρ w I) : ∃ p, AG0 p R q N cap o x ρ w I := by
  have F := h.facts hin hi
  obtain ⟨i, ⟨W, st, kd, wd, vl, ch, stb, kdb, wdb, vlb, chb, f, n, c0, c1, c2, c3, p0, q0, p1, q1, p2, q2, p3, q3, d0, d1, d2, d3⟩⟩ := x
  dsimp only at hin hi ha hb hc hr F
  subst hc
  have b := h.b
  have m := h.m
  obtain ⟨hin1, hi1, ewi, r1, r2, hl, hl16, w0, w1, s0, s1, n0, n1⟩ := F
  have n2 : n < 1000000 := by omega
  have hcm := a3_cases (o i).2
  have ok : WOk R ⟨epW (W.getD 7 0), 1, 0, 0, 0, 0, false, List.replicate (1 + a3 (o i).2).toNat (n + 1)⟩ := wok_new r1 (by omega) (by omega) (by omega) (by omega)
  have m1 := (m).new (n := ⟨epW (W.getD 7 0), 1, 0, 0, 0, 0, false, List.replicate (1 + a3 (o i).2).toNat (n + 1)⟩) rfl
  have aft := wAft (st := st) ok b.hw
  have hh := wHold (st := st) ok hl16
  rw [hr] at aft hh
  have hLn : r.W.length = 21 := aft.hl.trans hl
  have hLr := hLn.symm
  have hWn := aft.hw
  obtain ⟨hcm0, okn⟩ := aft.go e0
  refine ⟨⟨f, none, c1, false, 0, true, 0, r, r00⟩, ?_⟩
  have hX := hXTu ⟨f, none, c1, false, 0, true, 0, r, r00⟩
  dsimp only [AG0, alT, alH, wdH]
  refine sxb hX [.r 9] [] 4000 rfl (by first | exact trivial | simp [conjP]) ?_
  refine sxb hX [.r 9] [.T, .T] 4000 rfl (by simp [conjP, hin, hin1, hi1, hb]) ?_
  simp only [Int.toNat_natCast, ha]
  refine sx hX [] 4000 rfl (by (simp [-List.getD_eq_getElem?_getD, -List.length_eq_zero_iff, conjP] <;> (first | omega | ((repeat' (refine And.intro ?_ ?_)) <;> (first | omega | exact decide_eq_false (by omega) | exact decide_eq_true (by omega)))))) ?_
  refine sx hX [.F] 4000 rfl (by (simp [-List.getD_eq_getElem?_getD, -List.length_eq_zero_iff, conjP, getH, HE.so, hin, hin1, r1, r2, hl, w0, w1, s0, s1, n0, n2, wrP, ok, hr, e0, hLn] <;> (first | omega | ((repeat' (refine And.intro ?_ ?_)) <;> (first | omega | exact decide_eq_false (by omega) | exact decide_eq_true (by omega)))))) ?_
  (simp only [hcm0]; refine ss_raw hX 8 2 rfl rfl fun v => ?_; refine J _ ⟨i + 1, ⟨r.W, st + 1, r.kd, r.wd, r.vl, r.ch, stb, kdb, wdb, vlb, chb, true, n + 1, some ⟨(epW (W.getD 7 0)), r.nx, r.sn, r.fl, r.tm, r.i, r.hd, (List.replicate (1 + a3 (o i).2).toNat (n + 1))⟩, c1, c2, c3, v, q0, p1, q1, p2, q2, p3, q3, n + 1, d1, d2, d3⟩⟩ ?iv rfl _ _ _ (sub_of [0, 1, 2, 3, 4, 5, 24, 7, 8, 9, 10, 11, 20, 21, 14, 15, 16, 17, 18, 19] rfl rfl rfl rfl ?tt ?hh (by (repeat' (first | exact rfl | exact trivial | exact sim_refl _ | refine And.intro ?_ ?_))) ?ok); (case tt => simp only [ewi]; (repeat' (first | exact rfl | exact trivial | exact sim_refl _ | refine And.intro ?_ ?_)); done); (case hh => (((repeat' (first | exact rfl | exact trivial | exact sim_refl _ | exact simO_refl _ | exact subE_same rfl ren_wlE | exact subE_same rfl ren_rlE | exact subE_same rfl ren_bwE | exact subE_wrE rfl rfl | exact subE_rdE rfl rfl | exact sim_wrP rfl | exact sim_rdP rfl | exact sim_bsV rfl | assumption | refine And.intro ?_ ?_)); done))); (case ok => (((repeat' (first | exact rfl | exact trivial | exact okE_wlE | exact okE_rlE | exact okE_bwE | exact okE_wrE rfl | exact okE_rdE rfl | exact okP_wrP (i := 13) rfl | exact okP_wrP (i := 15) rfl | exact okP_rdP (i := 17) rfl | exact okP_rdP (i := 19) rfl | refine And.intro ?_ ?_)); done))); (case iv => exact AInv.next h (BInv.nx b hLn hWn (okn) (b.o1) (b.o2) (b.o3)) (by dsimp only; omega) (by dsimp only; omega) (m1.on ok b.o1 hh e0)))
set_option maxHeartbeats 4000000 in
theorem aw0iD (h : AInv R N x) (hin : x.i < N) (hi : x.i < 100) (ha : a3 (o x.i).1 = 0) (hb : bkB (o x.i).1 (o x.i).2 (hdO x.z.c0) (hdO x.z.c1) = false) {r : WR} (hc : x.z.c0 = none) (hr : wStep R ⟨epW (x.z.W.getD 7 0), 1, 0, 0, 0, 0, false, List.replicate (1 + a3 (o x.i).2).toNat (x.z.n + 1)⟩ x.z.W x.z.st = r) (e0 : r.k = 1)
    (J : ∀ p, AJ0 p R q N cap o x ρ w I) : ∃ p, AG0 p R q N cap o x ρ w I := by
  have F := h.facts hin hi
  obtain ⟨i, ⟨W, st, kd, wd, vl, ch, stb, kdb, wdb, vlb, chb, f, n, c0, c1, c2, c3, p0, q0, p1, q1, p2, q2, p3, q3, d0, d1, d2, d3⟩⟩ := x
  dsimp only at hin hi ha hb hc hr F
  subst hc
  have b := h.b
  have m := h.m
  obtain ⟨hin1, hi1, ewi, r1, r2, hl, hl16, w0, w1, s0, s1, n0, n1⟩ := F
  have n2 : n < 1000000 := by omega
  have hcm := a3_cases (o i).2
  have ok : WOk R ⟨epW (W.getD 7 0), 1, 0, 0, 0, 0, false, List.replicate (1 + a3 (o i).2).toNat (n + 1)⟩ := wok_new r1 (by omega) (by omega) (by omega) (by omega)
  have m1 := (m).new (n := ⟨epW (W.getD 7 0), 1, 0, 0, 0, 0, false, List.replicate (1 + a3 (o i).2).toNat (n + 1)⟩) rfl
  have aft := wAft (st := st) ok b.hw
  have hh := wHold (st := st) ok hl16
  rw [hr] at aft hh
  have hLn : r.W.length = 21 := aft.hl.trans hl
  have hLr := hLn.symm
  have hWn := aft.hw
  refine ⟨⟨f, none, c1, false, 0, true, 1, r, r00⟩, ?_⟩
  have hX := hXTu ⟨f, none, c1, false, 0, true, 1, r, r00⟩
  dsimp only [AG0, alT, alH, wdH]
  refine sxb hX [.r 9] [] 4000 rfl (by first | exact trivial | simp [conjP]) ?_
  refine sxb hX [.r 9] [.T, .T] 4000 rfl (by simp [conjP, hin, hin1, hi1, hb]) ?_
  simp only [Int.toNat_natCast, ha]
  refine sx hX [] 4000 rfl (by (simp [-List.getD_eq_getElem?_getD, -List.length_eq_zero_iff, conjP] <;> (first | omega | ((repeat' (refine And.intro ?_ ?_)) <;> (first | omega | exact decide_eq_false (by omega) | exact decide_eq_true (by omega)))))) ?_
  refine sx hX [.F] 4000 rfl (by (simp [-List.getD_eq_getElem?_getD, -List.length_eq_zero_iff, conjP, getH, HE.so, hin, hin1, r1, r2, hl, w0, w1, s0, s1, n0, n2, wrP, ok, hr, e0, hLn] <;> (first | omega | ((repeat' (refine And.intro ?_ ?_)) <;> (first | omega | exact decide_eq_false (by omega) | exact decide_eq_true (by omega)))))) ?_
  (refine ss_raw hX 8 2 rfl rfl fun v => ?_; refine J _ ⟨i + 1, ⟨r.W, st + 1, r.kd, r.wd, r.vl, r.ch, stb, kdb, wdb, vlb, chb, true, n + 1, none, c1, c2, c3, v, q0, p1, q1, p2, q2, p3, q3, n + 1, d1, d2, d3⟩⟩ ?iv rfl _ _ _ (sub_of [0, 1, 2, 3, 4, 5, 24, 7, 8, 9, 10, 11, 60, 61, 14, 15, 16, 17, 18, 19] rfl rfl rfl rfl ?tt ?hh (by (repeat' (first | exact rfl | exact trivial | exact sim_refl _ | refine And.intro ?_ ?_))) ?ok); (case tt => simp only [ewi]; (repeat' (first | exact rfl | exact trivial | exact sim_refl _ | refine And.intro ?_ ?_)); done); (case hh => (((repeat' (first | exact rfl | exact trivial | exact sim_refl _ | exact simO_refl _ | exact subE_same rfl ren_wlE | exact subE_same rfl ren_rlE | exact subE_same rfl ren_bwE | exact subE_wrE rfl rfl | exact subE_rdE rfl rfl | exact sim_wrP rfl | exact sim_rdP rfl | exact sim_bsV rfl | assumption | refine And.intro ?_ ?_)); done))); (case ok => (((repeat' (first | exact rfl | exact trivial | exact okE_wlE | exact okE_rlE | exact okE_bwE | exact okE_wrE rfl | exact okE_rdE rfl | exact okP_wrP (i := 13) rfl | exact okP_wrP (i := 15) rfl | exact okP_rdP (i := 17) rfl | exact okP_rdP (i := 19) rfl | refine And.intro ?_ ?_)); done))); (case iv => exact AInv.next h (BInv.nx b hLn hWn (trivial) (b.o1) (b.o2) (b.o3)) (by dsimp only; omega) (by dsimp only; omega) (m1.off hh (.inl e0))))
set_option maxHeartbeats 4000000 in
theorem aw0A (h : AInv R N x) (hin : x.i < N) (hi : x.i < 100) (ha : a3 (o x.i).1 = 0) (hb : bkB (o x.i).1 (o x.i).2 (hdO x.z.c0) (hdO x.z.c1) = false) {r : WR} {ep nx sn fl tm ii : Int} {hd : Bool} {l : List Int} (hc : x.z.c0 = some ⟨ep, nx, sn, fl, tm, ii, hd, l⟩) (hr : wStep R ⟨ep, nx, sn, fl, tm, ii, hd, l⟩ x.z.W x.z.st = r) (e0 : r.k = 0)
    (J : ∀ p, AJ0 p R q N cap o x ρ w I) : ∃ p, AG0 p R q N cap o x ρ w I := by
  have F := h.facts hin hi
  obtain ⟨i, ⟨W, st, kd, wd, vl, ch, stb, kdb, wdb, vlb, chb, f, n, c0, c1, c2, c3, p0, q0, p1, q1, p2, q2, p3, q3, d0, d1, d2, d3⟩⟩ := x
  dsimp only at hin hi ha hb hc hr F
  subst hc
  have b := h.b
  have m := h.m
  obtain ⟨hin1, hi1, ewi, r1, r2, hl, hl16, w0, w1, s0, s1, n0, n1⟩ := F
  have n2 : n < 1000000 := by omega
  have hcm := a3_cases (o i).2
  have ok : WOk R ⟨ep, nx, sn, fl, tm, ii, hd, l⟩ := b.o0
  have m1 := m
  have aft := wAft (st := st) ok b.hw
  have hh := wHold (st := st) ok hl16
  rw [hr] at aft hh
  have hLn : r.W.length = 21 := aft.hl.trans hl
  have hLr := hLn.symm
  have hWn := aft.hw
  obtain ⟨hcm0, okn⟩ := aft.go e0
  refine ⟨⟨f, (some ⟨ep, nx, sn, fl, tm, ii, hd, l⟩), c1, false, 0, false, 0, r, r00⟩, ?_⟩
  have hX := hXTu ⟨f, (some ⟨ep, nx, sn, fl, tm, ii, hd, l⟩), c1, false, 0, false, 0, r, r00⟩
  dsimp only [AG0, alT, alH, wdH]
  refine sxb hX [.r 9] [] 4000 rfl (by first | exact trivial | simp [conjP]) ?_
  refine sxb hX [.r 9] [.T, .T] 4000 rfl (by simp [conjP, hin, hin1, hi1, hb]) ?_
  simp only [Int.toNat_natCast, ha]
  refine sx hX [] 4000 rfl (by (simp [-List.getD_eq_getElem?_getD, -List.length_eq_zero_iff, conjP] <;> (first | omega | ((repeat' (refine And.intro ?_ ?_)) <;> (first | omega | exact decide_eq_false (by omega) | exact decide_eq_true (by omega)))))) ?_
  refine sx hX [.F] 4000 rfl (by (simp [-List.getD_eq_getElem?_getD, -List.length_eq_zero_iff, conjP, getH, HE.so, hin, hin1, r1, r2, hl, w0, w1, s0, s1, wrP, wrE, ok, hr, e0, hLn] <;> (first | omega | ((repeat' (refine And.intro ?_ ?_)) <;> (first | omega | exact decide_eq_false (by omega) | exact decide_eq_true (by omega)))))) ?_
  (simp only [hcm0]; refine ss_raw hX 8 2 rfl rfl fun v => ?_; refine J _ ⟨i + 1, ⟨r.W, st + 1, r.kd, r.wd, r.vl, r.ch, stb, kdb, wdb, vlb, chb, true, n, some ⟨ep, r.nx, r.sn, r.fl, r.tm, r.i, r.hd, l⟩, c1, c2, c3, v, q0, p1, q1, p2, q2, p3, q3, d0, d1, d2, d3⟩⟩ ?iv rfl _ _ _ (sub_of [0, 1, 2, 3, 4, 5, 20, 7, 8, 9, 10, 11, 12, 13, 14, 15, 16, 17, 18, 19] rfl rfl rfl rfl ?tt ?hh (by (repeat' (first | exact rfl | exact trivial | exact sim_refl _ | refine And.intro ?_ ?_))) ?ok); (case tt => simp only [ewi]; (repeat' (first | exact rfl | exact trivial | exact sim_refl _ | refine And.intro ?_ ?_)); done); (case hh => (((repeat' (first | exact rfl | exact trivial | exact sim_refl _ | exact simO_refl _ | exact subE_same rfl ren_wlE | exact subE_same rfl ren_rlE | exact subE_same rfl ren_bwE | exact subE_wrE rfl rfl | exact subE_rdE rfl rfl | exact sim_wrP rfl | exact sim_rdP rfl | exact sim_bsV rfl | assumption | refine And.intro ?_ ?_)); done))); (case ok => (((repeat' (first | exact rfl | exact trivial | exact okE_wlE | exact okE_rlE | exact okE_bwE | exact okE_wrE rfl | exact okE_rdE rfl | exact okP_wrP (i := 13) rfl | exact okP_wrP (i := 15) rfl | exact okP_rdP (i := 17) rfl | exact okP_rdP (i := 19) rfl | refine And.intro ?_ ?_)); done))); (case iv => exact AInv.next h (BInv.nx b hLn hWn (okn) (b.o1) (b.o2) (b.o3)) (by dsimp only; omega) (by dsimp only; omega) (m1.on ok b.o1 hh e0)))
set_option maxHeartbeats 4000000 in
theorem aw0D (h : AInv R N x) (hin : x.i < N) (hi : x.i < 100) (ha : a3 (o x.i).1 = 0) (hb : bkB (o x.i).1 (o x.i).2 (hdO x.z.c0) (hdO x.z.c1) = false) {r : WR} {ep nx sn fl tm ii : Int} {hd : Bool} {l : List Int} (hc : x.z.c0 = some ⟨ep, nx, sn, fl, tm, ii, hd, l⟩) (hr : wStep R ⟨ep, nx, sn, fl, tm, ii, hd, l⟩ x.z.W x.z.st = r) (e0 : r.k = 1)
    (J : ∀ p, AJ0 p R q N cap o x ρ w I) : ∃ p, AG0 p R q N cap o x ρ w I := by
  have F := h.facts hin hi
  obtain ⟨i, ⟨W, st, kd, wd, vl, ch, stb, kdb, wdb, vlb, chb, f, n, c0, c1, c2, c3, p0, q0, p1, q1, p2, q2, p3, q3, d0, d1, d2, d3⟩⟩ := x
  dsimp only at hin hi ha hb hc hr F
  subst hc
  have b := h.b
  have m := h.m
  obtain ⟨hin1, hi1, ewi, r1, r2, hl, hl16, w0, w1, s0, s1, n0, n1⟩ := F
  have n2 : n < 1000000 := by omega
  have hcm := a3_cases (o i).2
  have ok : WOk R ⟨ep, nx, sn, fl, tm, ii, hd, l⟩ := b.o0
  have m1 := m
  have aft := wAft (st := st) ok b.hw
  have hh := wHold (st := st) ok hl16
  rw [hr] at aft hh
  have hLn : r.W.length = 21 := aft.hl.trans hl
  have hLr := hLn.symm
  have hWn := aft.hw
  refine ⟨⟨f, (some ⟨ep, nx, sn, fl, tm, ii, hd, l⟩), c1, false, 0, false, 1, r, r00⟩, ?_⟩
  have hX := hXTu ⟨f, (some ⟨ep, nx, sn, fl, tm, ii, hd, l⟩), c1, false, 0, false, 1, r, r00⟩
  dsimp only [AG0, alT, alH, wdH]
  refine sxb hX [.r 9] [] 4000 rfl (by first | exact trivial | simp [conjP]) ?_
  refine sxb hX [.r 9] [.T, .T] 4000 rfl (by simp [conjP, hin, hin1, hi1, hb]) ?_
  simp only [Int.toNat_natCast, ha]
  refine sx hX [] 4000 rfl (by (simp [-List.getD_eq_getElem?_getD, -List.length_eq_zero_iff, conjP] <;> (first | omega | ((repeat' (refine And.intro ?_ ?_)) <;> (first | omega | exact decide_eq_false (by omega) | exact decide_eq_true (by omega)))))) ?_
  refine sx hX [.F] 4000 rfl (by (simp [-List.getD_eq_getElem?_getD, -List.length_eq_zero_iff, conjP, getH, HE.so, hin, hin1, r1, r2, hl, w0, w1, s0, s1, wrP, wrE, ok, hr, e0, hLn] <;> (first | omega | ((repeat' (refine And.intro ?_ ?_)) <;> (first | omega | exact decide_eq_false (by omega) | exact decide_eq_true (by omega)))))) ?_
  (refine ss_raw hX 8 2 rfl rfl fun v => ?_; refine J _ ⟨i + 1, ⟨r.W, st + 1, r.kd, r.wd, r.vl, r.ch, stb, kdb, wdb, vlb, chb, true, n, none, c1, c2, c3, v, q0, p1, q1, p2, q2, p3, q3, d0, d1, d2, d3⟩⟩ ?iv rfl _ _ _ (sub_of [0, 1, 2, 3, 4, 5, 20, 7, 8, 9, 10, 11, 60, 61, 14, 15, 16, 17, 18, 19] rfl rfl rfl rfl ?tt ?hh (by (repeat' (first | exact rfl | exact trivial | exact sim_refl _ | refine And.intro ?_ ?_))) ?ok); (case tt => simp only [ewi]; (repeat' (first | exact rfl | exact trivial | exact sim_refl _ | refine And.intro ?_ ?_)); done); (case hh => (((repeat' (first | exact rfl | exact trivial | exact sim_refl _ | exact simO_refl _ | exact subE_same rfl ren_wlE | exact subE_same rfl ren_rlE | exact subE_same rfl ren_bwE | exact subE_wrE rfl rfl | exact subE_rdE rfl rfl | exact sim_wrP rfl | exact sim_rdP rfl | exact sim_bsV rfl | assumption | refine And.intro ?_ ?_)); done))); (case ok => (((repeat' (first | exact rfl | exact trivial | exact okE_wlE | exact okE_rlE | exact okE_bwE | exact okE_wrE rfl | exact okE_rdE rfl | exact okP_wrP (i := 13) rfl | exact okP_wrP (i := 15) rfl | exact okP_rdP (i := 17) rfl | exact okP_rdP (i := 19) rfl | refine And.intro ?_ ?_)); done))); (case iv => exact AInv.next h (BInv.nx b hLn hWn (trivial) (b.o1) (b.o2) (b.o3)) (by dsimp only; omega) (by dsimp only; omega) (m1.off hh (.inl e0))))
set_option maxHeartbeats 4000000 in
theorem aw0E (h : AInv R N x) (hin : x.i < N) (hi : x.i < 100) (ha : a3 (o x.i).1 = 0) (hb : bkB (o x.i).1 (o x.i).2 (hdO x.z.c0) (hdO x.z.c1) = false) {r : WR} {ep nx sn fl tm ii : Int} {hd : Bool} {l : List Int} (hc : x.z.c0 = some ⟨ep, nx, sn, fl, tm, ii, hd, l⟩) (hr : wStep R ⟨ep, nx, sn, fl, tm, ii, hd, l⟩ x.z.W x.z.st = r) (e0 : r.k = 2)
    (J : ∀ p, AJ0 p R q N cap o x ρ w I) : ∃ p, AG0 p R q N cap o x ρ w I := by
  have F := h.facts hin hi
  obtain ⟨i, ⟨W, st, kd, wd, vl, ch, stb, kdb, wdb, vlb, chb, f, n, c0, c1, c2, c3, p0, q0, p1, q1, p2, q2, p3, q3, d0, d1, d2, d3⟩⟩ := x
  dsimp only at hin hi ha hb hc hr F
  subst hc
  have b := h.b
  have m := h.m
  obtain ⟨hin1, hi1, ewi, r1, r2, hl, hl16, w0, w1, s0, s1, n0, n1⟩ := F
  have n2 : n < 1000000 := by omega
  have hcm := a3_cases (o i).2
  have ok : WOk R ⟨ep, nx, sn, fl, tm, ii, hd, l⟩ := b.o0
  have m1 := m
  have aft := wAft (st := st) ok b.hw
  have hh := wHold (st := st) ok hl16
  rw [hr] at aft hh
  have hLn : r.W.length = 21 := aft.hl.trans hl
  have hLr := hLn.symm
  have hWn := aft.hw
  refine ⟨⟨f, (some ⟨ep, nx, sn, fl, tm, ii, hd, l⟩), c1, false, 0, false, 2, r, r00⟩, ?_⟩
  have hX := hXTu ⟨f, (some ⟨ep, nx, sn, fl, tm, ii, hd, l⟩), c1, false, 0, false, 2, r, r00⟩
  dsimp only [AG0, alT, alH, wdH]
  refine sxb hX [.r 9] [] 4000 rfl (by first | exact trivial | simp [conjP]) ?_
  refine sxb hX [.r 9] [.T, .T] 4000 rfl (by simp [conjP, hin, hin1, hi1, hb]) ?_
  simp only [Int.toNat_natCast, ha]
  refine sx hX [] 4000 rfl (by (simp [-List.getD_eq_getElem?_getD, -List.length_eq_zero_iff, conjP] <;> (first | omega | ((repeat' (refine And.intro ?_ ?_)) <;> (first | omega | exact decide_eq_false (by omega) | exact decide_eq_true (by omega)))))) ?_
  refine sx hX [.F] 4000 rfl (by (simp [-List.getD_eq_getElem?_getD, -List.length_eq_zero_iff, conjP, getH, HE.so, hin, hin1, r1, r2, hl, w0, w1, s0, s1, wrP, wrE, ok, hr, e0, hLn] <;> (first | omega | ((repeat' (refine And.intro ?_ ?_)) <;> (first | omega | exact decide_eq_false (by omega) | exact decide_eq_true (by omega)))))) ?_
  (refine ss_raw hX 8 2 rfl rfl fun v => ?_; refine J _ ⟨i + 1, ⟨r.W, st + 1, r.kd, r.wd, r.vl, r.ch, stb, kdb, wdb, vlb, chb, true, n, none, c1, c2, c3, v, q0, p1, q1, p2, q2, p3, q3, d0, d1, d2, d3⟩⟩ ?iv rfl _ _ _ (sub_of [0, 1, 2, 3, 4, 5, 20, 7, 8, 9, 10, 11, 60, 61, 14, 15, 16, 17, 18, 19] rfl rfl rfl rfl ?tt ?hh (by (repeat' (first | exact rfl | exact trivial | exact sim_refl _ | refine And.intro ?_ ?_))) ?ok); (case tt => simp only [ewi]; (repeat' (first | exact rfl | exact trivial | exact sim_refl _ | refine And.intro ?_ ?_)); done); (case hh => (((repeat' (first | exact rfl | exact trivial | exact sim_refl _ | exact simO_refl _ | exact subE_same rfl ren_wlE | exact subE_same rfl ren_rlE | exact subE_same rfl ren_bwE | exact subE_wrE rfl rfl | exact subE_rdE rfl rfl | exact sim_wrP rfl | exact sim_rdP rfl | exact sim_bsV rfl | assumption | refine And.intro ?_ ?_)); done))); (case ok => (((repeat' (first | exact rfl | exact trivial | exact okE_wlE | exact okE_rlE | exact okE_bwE | exact okE_wrE rfl | exact okE_rdE rfl | exact okP_wrP (i := 13) rfl | exact okP_wrP (i := 15) rfl | exact okP_rdP (i := 17) rfl | exact okP_rdP (i := 19) rfl | refine And.intro ?_ ?_)); done))); (case iv => exact AInv.next h (BInv.nx b hLn hWn (trivial) (b.o1) (b.o2) (b.o3)) (by dsimp only; omega) (by dsimp only; omega) (m1.off hh (.inr e0))))
end
end Go.Proofs.YtmghcelohnlceaaGreatDoor

/- SmallAlone: client 1's turns. -/
namespace Go.Proofs.YtmghcelohnlceaaGreatDoor
open Go Go.Hx
set_option maxRecDepth 8000
section
variable {R q : Int} {N cap : Nat} {o : Nat → Int × Int} {x : AS} {ρ : Nat → Nat × Nat} {w : World} {I : Act → World → Prop}
abbrev AJ1 (p : TP) (R q : Int) (N cap : Nat) (o : Nat → Int × Int) (x : AS) (ρ : Nat → Nat × Nat) (w : World) (I : Act → World → Prop) : Prop :=
  ∀ x', AInv R N x' → x'.i = x.i + 1 → ∀ cs T H, Sub (FEnv Tryz.prog (XTu p).TE (hXTu p).te Tryz.f3 Tryz.f3.ntmps [.obj (.rows N 2 (actR o)), pinE RTV] (Is .tt [.obj (.rows N 2 (actR o)), pinE RTV]) ρ w) T H (alT N cap q x') (alH N o R x') →
    SS (hXTu p) (At ρ w) (Is .tt [.obj (.rows N 2 (actR o)), pinE RTV]) ⟨cs, [], Tryz.f3, Tryz.f3.ntmps, [.obj (.rows N 2 (actR o)), pinE RTV], downLp (contF Tryz.f3 6 [I]), T, H⟩
abbrev AG1 (p : TP) (R q : Int) (N cap : Nat) (o : Nat → Int × Int) (x : AS) (ρ : Nat → Nat × Nat) (w : World) (I : Act → World → Prop) : Prop :=
  SS (hXTu p) (At ρ w) (Is .tt [.obj (.rows N 2 (actR o)), pinE RTV]) ⟨[], [], Tryz.f3, Tryz.f3.ntmps, [.obj (.rows N 2 (actR o)), pinE RTV], contF Tryz.f3 6 [I], alT N cap q x, alH N o R x⟩

set_option maxHeartbeats 4000000 in
theorem aw1iA (h : AInv R N x) (hin : x.i < N) (hi : x.i < 100) (ha : a3 (o x.i).1 = 1) (hb : bkB (o x.i).1 (o x.i).2 (hdO x.z.c0) (hdO x.z.c1) = false) {r : WR} (hc : x.z.c1 = none) (hr : wStep R ⟨epW (x.z.W.getD 7 0), 1, 0, 0, 0, 0, false, List.replicate (1 + a3 (o x.i).2).toNat (x.z.n + 1)⟩ x.z.W x.z.st = r) (e0 : r.k = 0)
    (J : ∀ p, AJ1 p R q N cap o x ρ w I) : ∃ p, AG1 p R q N cap o x ρ w I := by
  have F := h.facts hin hi
  obtain ⟨i, ⟨W, st, kd, wd, vl, ch, stb, kdb, wdb, vlb, chb, f, n, c0, c1, c2, c3, p0, q0, p1, q1, p2, q2, p3, q3, d0, d1, d2, d3⟩⟩ := x
  dsimp only at hin hi ha hb hc hr F
  subst hc
  have b := h.b
  have m := h.m
  obtain ⟨hin1, hi1, ewi, r1, r2, hl, hl16, w0, w1, s0, s1, n0, n1⟩ := F
  have n2 : n < 1000000 := by omega
  have hcm := a3_cases (o i).2
  have ok : WOk R ⟨epW (W.getD 7 0), 1, 0, 0, 0, 0, false, List.replicate (1 + a3 (o i).2).toNat (n + 1)⟩ := wok_new r1 (by omega) (by omega) (by omega) (by omega)
  have m1 := (m.swap).new (n := ⟨epW (W.getD 7 0), 1, 0, 0, 0, 0, false, List.replicate (1 + a3 (o i).2).toNat (n + 1)⟩) rfl
  have aft := wAft (st := st) ok b.hw
  have hh := wHold (st := st) ok hl16
  rw [hr] at aft hh
  have hLn : r.W.length = 21 := aft.hl.trans hl
  have hLr := hLn.symm
  have hWn := aft.hw
  obtain ⟨hcm0, okn⟩ := aft.go e0
  refine ⟨⟨f, c0, none, false, 1, true, 0, r, r00⟩, ?_⟩
  have hX := hXTu ⟨f, c0, none, false, 1, true, 0, r, r00⟩
  dsimp only [AG1, alT, alH, wdH]
  refine sxb hX [.r 9] [] 4000 rfl (by first | exact trivial | simp [conjP]) ?_
  refine sxb hX [.r 9] [.T, .T] 4000 rfl (by simp [conjP, hin, hin1, hi1, hb]) ?_
  simp only [Int.toNat_natCast, ha]
  refine sx hX [] 4000 rfl (by (simp [-List.getD_eq_getElem?_getD, -List.length_eq_zero_iff, conjP] <;> (first | omega | ((repeat' (refine And.intro ?_ ?_)) <;> (first | omega | exact decide_eq_false (by omega) | exact decide_eq_true (by omega)))))) ?_
  refine sx hX [.F] 4000 rfl (by (simp [-List.getD_eq_getElem?_getD, -List.length_eq_zero_iff, conjP, getH, HE.so, hin, hin1, r1, r2, hl, w0, w1, s0, s1, n0, n2, wrP, ok, hr, e0, hLn] <;> (first | omega | ((repeat' (refine And.intro ?_ ?_)) <;> (first | omega | exact decide_eq_false (by omega) | exact decide_eq_true (by omega)))))) ?_
  (simp only [hcm0]; refine ss_raw hX 9 2 rfl rfl fun v => ?_; refine J _ ⟨i + 1, ⟨r.W, st + 1, r.kd, r.wd, r.vl, r.ch, stb, kdb, wdb, vlb, chb, true, n + 1, c0, some ⟨(epW (W.getD 7 0)), r.nx, r.sn, r.fl, r.tm, r.i, r.hd, (List.replicate (1 + a3 (o i).2).toNat (n + 1))⟩, c2, c3, p0, q0, v, q1, p2, q2, p3, q3, d0, n + 1, d2, d3⟩⟩ ?iv rfl _ _ _ (sub_of [0, 1, 2, 3, 4, 5, 24, 7, 8, 9, 10, 11, 12, 13, 20, 21, 16, 17, 18, 19] rfl rfl rfl rfl ?tt ?hh (by (repeat' (first | exact rfl | exact trivial | exact sim_refl _ | refine And.intro ?_ ?_))) ?ok); (case tt => simp only [ewi]; (repeat' (first | exact rfl | exact trivial | exact sim_refl _ | refine And.intro ?_ ?_)); done); (case hh => (((repeat' (first | exact rfl | exact trivial | exact sim_refl _ | exact simO_refl _ | exact subE_same rfl ren_wlE | exact subE_same rfl ren_rlE | exact subE_same rfl ren_bwE | exact subE_wrE rfl rfl | exact subE_rdE rfl rfl | exact sim_wrP rfl | exact sim_rdP rfl | exact sim_bsV rfl | assumption | refine And.intro ?_ ?_)); done))); (case ok => (((repeat' (first | exact rfl | exact trivial | exact okE_wlE | exact okE_rlE | exact okE_bwE | exact okE_wrE rfl | exact okE_rdE rfl | exact okP_wrP (i := 13) rfl | exact okP_wrP (i := 15) rfl | exact okP_rdP (i := 17) rfl | exact okP_rdP (i := 19) rfl | refine And.intro ?_ ?_)); done))); (case iv => exact AInv.next h (BInv.nx b hLn hWn (b.o0) (okn) (b.o2) (b.o3)) (by dsimp only; omega) (by dsimp only; omega) ((m1.on ok b.o0 hh e0).swap)))
set_option maxHeartbeats 4000000 in
theorem aw1iD (h : AInv R N x) (hin : x.i < N) (hi : x.i < 100) (ha : a3 (o x.i).1 = 1) (hb : bkB (o x.i).1 (o x.i).2 (hdO x.z.c0) (hdO x.z.c1) = false) {r : WR} (hc : x.z.c1 = none) (hr : wStep R ⟨epW (x.z.W.getD 7 0), 1, 0, 0, 0, 0, false, List.replicate (1 + a3 (o x.i).2).toNat (x.z.n + 1)⟩ x.z.W x.z.st = r) (e0 : r.k = 1)
    (J : ∀ p, AJ1 p R q N cap o x ρ w I) : ∃ p, AG1 p R q N cap o x ρ w I := by
  have F := h.facts hin hi
  obtain ⟨i, ⟨W, st, kd, wd, vl, ch, stb, kdb, wdb, vlb, chb, f, n, c0, c1, c2, c3, p0, q0, p1, q1, p2, q2, p3, q3, d0, d1, d2, d3⟩⟩ := x
  dsimp only at hin hi ha hb hc hr F
  subst hc
  have b := h.b
  have m := h.m
  obtain ⟨hin1, hi1, ewi, r1, r2, hl, hl16, w0, w1, s0, s1, n0, n1⟩ := F
  have n2 : n < 1000000 := by omega
  have hcm := a3_cases (o i).2
  have ok : WOk R ⟨epW (W.getD 7 0), 1, 0, 0, 0, 0, false, List.replicate (1 + a3 (o i).2).toNat (n + 1)⟩ := wok_new r1 (by omega) (by omega) (by omega) (by omega)
  have m1 := (m.swap).new (n := ⟨epW (W.getD 7 0), 1, 0, 0, 0, 0, false, List.replicate (1 + a3 (o i).2).toNat (n + 1)⟩) rfl
  have aft := wAft (st := st) ok b.hw
  have hh := wHold (st := st) ok hl16
  rw [hr] at aft hh
  have hLn : r.W.length = 21 := aft.hl.trans hl
  have hLr := hLn.symm
  have hWn := aft.hw
  refine ⟨⟨f, c0, none, false, 1, true, 1, r, r00⟩, ?_⟩
  have hX := hXTu ⟨f, c0, none, false, 1, true, 1, r, r00⟩
  dsimp only [AG1, alT, alH, wdH]
  refine sxb hX [.r 9] [] 4000 rfl (by first | exact trivial | simp [conjP]) ?_
  refine sxb hX [.r 9] [.T, .T] 4000 rfl (by simp [conjP, hin, hin1, hi1, hb]) ?_
  simp only [Int.toNat_natCast, ha]
  refine sx hX [] 4000 rfl (by (simp [-List.getD_eq_getElem?_getD, -List.length_eq_zero_iff, conjP] <;> (first | omega | ((repeat' (refine And.intro ?_ ?_)) <;> (first | omega | exact decide_eq_false (by omega) | exact decide_eq_true (by omega)))))) ?_
  refine sx hX [.F] 4000 rfl (by (simp [-List.getD_eq_getElem?_getD, -List.length_eq_zero_iff, conjP, getH, HE.so, hin, hin1, r1, r2, hl, w0, w1, s0, s1, n0, n2, wrP, ok, hr, e0, hLn] <;> (first | omega | ((repeat' (refine And.intro ?_ ?_)) <;> (first | omega | exact decide_eq_false (by omega) | exact decide_eq_true (by omega)))))) ?_
  (refine ss_raw hX 9 2 rfl rfl fun v => ?_; refine J _ ⟨i + 1, ⟨r.W, st + 1, r.kd, r.wd, r.vl, r.ch, stb, kdb, wdb, vlb, chb, true, n + 1, c0, none, c2, c3, p0, q0, v, q1, p2, q2, p3, q3, d0, n + 1, d2, d3⟩⟩ ?iv rfl _ _ _ (sub_of [0, 1, 2, 3, 4, 5, 24, 7, 8, 9, 10, 11, 12, 13, 60, 61, 16, 17, 18, 19] rfl rfl rfl rfl ?tt ?hh (by (repeat' (first | exact rfl | exact trivial | exact sim_refl _ | refine And.intro ?_ ?_))) ?ok); (case tt => simp only [ewi]; (repeat' (first | exact rfl | exact trivial | exact sim_refl _ | refine And.intro ?_ ?_)); done); (case hh => (((repeat' (first | exact rfl | exact trivial | exact sim_refl _ | exact simO_refl _ | exact subE_same rfl ren_wlE | exact subE_same rfl ren_rlE | exact subE_same rfl ren_bwE | exact subE_wrE rfl rfl | exact subE_rdE rfl rfl | exact sim_wrP rfl | exact sim_rdP rfl | exact sim_bsV rfl | assumption | refine And.intro ?_ ?_)); done))); (case ok => (((repeat' (first | exact rfl | exact trivial | exact okE_wlE | exact okE_rlE | exact okE_bwE | exact okE_wrE rfl | exact okE_rdE rfl | exact okP_wrP (i := 13) rfl | exact okP_wrP (i := 15) rfl | exact okP_rdP (i := 17) rfl | exact okP_rdP (i := 19) rfl | refine And.intro ?_ ?_)); done))); (case iv => exact AInv.next h (BInv.nx b hLn hWn (b.o0) (trivial) (b.o2) (b.o3)) (by dsimp only; omega) (by dsimp only; omega) ((m1.off hh (.inl e0)).swap)))
set_option maxHeartbeats 4000000 in
theorem aw1A (h : AInv R N x) (hin : x.i < N) (hi : x.i < 100) (ha : a3 (o x.i).1 = 1) (hb : bkB (o x.i).1 (o x.i).2 (hdO x.z.c0) (hdO x.z.c1) = false) {r : WR} {ep nx sn fl tm ii : Int} {hd : Bool} {l : List Int} (hc : x.z.c1 = some ⟨ep, nx, sn, fl, tm, ii, hd, l⟩) (hr : wStep R ⟨ep, nx, sn, fl, tm, ii, hd, l⟩ x.z.W x.z.st = r) (e0 : r.k = 0)
    (J : ∀ p, AJ1 p R q N cap o x ρ w I) : ∃ p, AG1 p R q N cap o x ρ w I := by
  have F := h.facts hin hi
  obtain ⟨i, ⟨W, st, kd, wd, vl, ch, stb, kdb, wdb, vlb, chb, f, n, c0, c1, c2, c3, p0, q0, p1, q1, p2, q2, p3, q3, d0, d1, d2, d3⟩⟩ := x
  dsimp only at hin hi ha hb hc hr F
  subst hc
  have b := h.b
  have m := h.m
  obtain ⟨hin1, hi1, ewi, r1, r2, hl, hl16, w0, w1, s0, s1, n0, n1⟩ := F
  have n2 : n < 1000000 := by omega
  have hcm := a3_cases (o i).2
  have ok : WOk R ⟨ep, nx, sn, fl, tm, ii, hd, l⟩ := b.o1
  have m1 := m.swap
  have aft := wAft (st := st) ok b.hw
  have hh := wHold (st := st) ok hl16
  rw [hr] at aft hh
  have hLn : r.W.length = 21 := aft.hl.trans hl
  have hLr := hLn.symm
  have hWn := aft.hw
  obtain ⟨hcm0, okn⟩ := aft.go e0
  refine ⟨⟨f, c0, (some ⟨ep, nx, sn, fl, tm, ii, hd, l⟩), false, 1, false, 0, r, r00⟩, ?_⟩
  have hX := hXTu ⟨f, c0, (some ⟨ep, nx, sn, fl, tm, ii, hd, l⟩), false, 1, false, 0, r, r00⟩
  dsimp only [AG1, alT, alH, wdH]
  refine sxb hX [.r 9] [] 4000 rfl (by first | exact trivial | simp [conjP]) ?_
  refine sxb hX [.r 9] [.T, .T] 4000 rfl (by simp [conjP, hin, hin1, hi1, hb]) ?_
  simp only [Int.toNat_natCast, ha]
  refine sx hX [] 4000 rfl (by (simp [-List.getD_eq_getElem?_getD, -List.length_eq_zero_iff, conjP] <;> (first | omega | ((repeat' (refine And.intro ?_ ?_)) <;> (first | omega | exact decide_eq_false (by omega) | exact decide_eq_true (by omega)))))) ?_
  refine sx hX [.F] 4000 rfl (by (simp [-List.getD_eq_getElem?_getD, -List.length_eq_zero_iff, conjP, getH, HE.so, hin, hin1, r1, r2, hl, w0, w1, s0, s1, wrP, wrE, ok, hr, e0, hLn] <;> (first | omega | ((repeat' (refine And.intro ?_ ?_)) <;> (first | omega | exact decide_eq_false (by omega) | exact decide_eq_true (by omega)))))) ?_
  (simp only [hcm0]; refine ss_raw hX 9 2 rfl rfl fun v => ?_; refine J _ ⟨i + 1, ⟨r.W, st + 1, r.kd, r.wd, r.vl, r.ch, stb, kdb, wdb, vlb, chb, true, n, c0, some ⟨ep, r.nx, r.sn, r.fl, r.tm, r.i, r.hd, l⟩, c2, c3, p0, q0, v, q1, p2, q2, p3, q3, d0, d1, d2, d3⟩⟩ ?iv rfl _ _ _ (sub_of [0, 1, 2, 3, 4, 5, 20, 7, 8, 9, 10, 11, 12, 13, 14, 15, 16, 17, 18, 19] rfl rfl rfl rfl ?tt ?hh (by (repeat' (first | exact rfl | exact trivial | exact sim_refl _ | refine And.intro ?_ ?_))) ?ok); (case tt => simp only [ewi]; (repeat' (first | exact rfl | exact trivial | exact sim_refl _ | refine And.intro ?_ ?_)); done); (case hh => (((repeat' (first | exact rfl | exact trivial | exact sim_refl _ | exact simO_refl _ | exact subE_same rfl ren_wlE | exact subE_same rfl ren_rlE | exact subE_same rfl ren_bwE | exact subE_wrE rfl rfl | exact subE_rdE rfl rfl | exact sim_wrP rfl | exact sim_rdP rfl | exact sim_bsV rfl | assumption | refine And.intro ?_ ?_)); done))); (case ok => (((repeat' (first | exact rfl | exact trivial | exact okE_wlE | exact okE_rlE | exact okE_bwE | exact okE_wrE rfl | exact okE_rdE rfl | exact okP_wrP (i := 13) rfl | exact okP_wrP (i := 15) rfl | exact okP_rdP (i := 17) rfl | exact okP_rdP (i := 19) rfl | refine And.intro ?_ ?_)); done))); (case iv => exact AInv.next h (BInv.nx b hLn hWn (b.o0) (okn) (b.o2) (b.o3)) (by dsimp only; omega) (by dsimp only; omega) ((m1.on ok b.o0 hh e0).swap)))
set_option maxHeartbeats 4000000 in
theorem aw1D (h : AInv R N x) (hin : x.i < N) (hi : x.i < 100) (ha : a3 (o x.i).1 = 1) (hb : bkB (o x.i).1 (o x.i).2 (hdO x.z.c0) (hdO x.z.c1) = false) {r : WR} {ep nx sn fl tm ii : Int} {hd : Bool} {l : List Int} (hc : x.z.c1 = some ⟨ep, nx, sn, fl, tm, ii, hd, l⟩) (hr : wStep R ⟨ep, nx, sn, fl, tm, ii, hd, l⟩ x.z.W x.z.st = r) (e0 : r.k = 1)
    (J : ∀ p, AJ1 p R q N cap o x ρ w I) : ∃ p, AG1 p R q N cap o x ρ w I := by
  have F := h.facts hin hi
  obtain ⟨i, ⟨W, st, kd, wd, vl, ch, stb, kdb, wdb, vlb, chb, f, n, c0, c1, c2, c3, p0, q0, p1, q1, p2, q2, p3, q3, d0, d1, d2, d3⟩⟩ := x
  dsimp only at hin hi ha hb hc hr F
  subst hc
  have b := h.b
  have m := h.m
  obtain ⟨hin1, hi1, ewi, r1, r2, hl, hl16, w0, w1, s0, s1, n0, n1⟩ := F
  have n2 : n < 1000000 := by omega
  have hcm := a3_cases (o i).2
  have ok : WOk R ⟨ep, nx, sn, fl, tm, ii, hd, l⟩ := b.o1
  have m1 := m.swap
  have aft := wAft (st := st) ok b.hw
  have hh := wHold (st := st) ok hl16
  rw [hr] at aft hh
  have hLn : r.W.length = 21 := aft.hl.trans hl
  have hLr := hLn.symm
  have hWn := aft.hw
  refine ⟨⟨f, c0, (some ⟨ep, nx, sn, fl, tm, ii, hd, l⟩), false, 1, false, 1, r, r00⟩, ?_⟩
  have hX := hXTu ⟨f, c0, (some ⟨ep, nx, sn, fl, tm, ii, hd, l⟩), false, 1, false, 1, r, r00⟩
  dsimp only [AG1, alT, alH, wdH]
  refine sxb hX [.r 9] [] 4000 rfl (by first | exact trivial | simp [conjP]) ?_
  refine sxb hX [.r 9] [.T, .T] 4000 rfl (by simp [conjP, hin, hin1, hi1, hb]) ?_
  simp only [Int.toNat_natCast, ha]
  refine sx hX [] 4000 rfl (by (simp [-List.getD_eq_getElem?_getD, -List.length_eq_zero_iff, conjP] <;> (first | omega | ((repeat' (refine And.intro ?_ ?_)) <;> (first | omega | exact decide_eq_false (by omega) | exact decide_eq_true (by omega)))))) ?_
  refine sx hX [.F] 4000 rfl (by (simp [-List.getD_eq_getElem?_getD, -List.length_eq_zero_iff, conjP, getH, HE.so, hin, hin1, r1, r2, hl, w0, w1, s0, s1, wrP, wrE, ok, hr, e0, hLn] <;> (first | omega | ((repeat' (refine And.intro ?_ ?_)) <;> (first | omega | exact decide_eq_false (by omega) | exact decide_eq_true (by omega)))))) ?_
  (refine ss_raw hX 9 2 rfl rfl fun v => ?_; refine J _ ⟨i + 1, ⟨r.W, st + 1, r.kd, r.wd, r.vl, r.ch, stb, kdb, wdb, vlb, chb, true, n, c0, none, c2, c3, p0, q0, v, q1, p2, q2, p3, q3, d0, d1, d2, d3⟩⟩ ?iv rfl _ _ _ (sub_of [0, 1, 2, 3, 4, 5, 20, 7, 8, 9, 10, 11, 12, 13, 60, 61, 16, 17, 18, 19] rfl rfl rfl rfl ?tt ?hh (by (repeat' (first | exact rfl | exact trivial | exact sim_refl _ | refine And.intro ?_ ?_))) ?ok); (case tt => simp only [ewi]; (repeat' (first | exact rfl | exact trivial | exact sim_refl _ | refine And.intro ?_ ?_)); done); (case hh => (((repeat' (first | exact rfl | exact trivial | exact sim_refl _ | exact simO_refl _ | exact subE_same rfl ren_wlE | exact subE_same rfl ren_rlE | exact subE_same rfl ren_bwE | exact subE_wrE rfl rfl | exact subE_rdE rfl rfl | exact sim_wrP rfl | exact sim_rdP rfl | exact sim_bsV rfl | assumption | refine And.intro ?_ ?_)); done))); (case ok => (((repeat' (first | exact rfl | exact trivial | exact okE_wlE | exact okE_rlE | exact okE_bwE | exact okE_wrE rfl | exact okE_rdE rfl | exact okP_wrP (i := 13) rfl | exact okP_wrP (i := 15) rfl | exact okP_rdP (i := 17) rfl | exact okP_rdP (i := 19) rfl | refine And.intro ?_ ?_)); done))); (case iv => exact AInv.next h (BInv.nx b hLn hWn (b.o0) (trivial) (b.o2) (b.o3)) (by dsimp only; omega) (by dsimp only; omega) ((m1.off hh (.inl e0)).swap)))
set_option maxHeartbeats 4000000 in
theorem aw1E (h : AInv R N x) (hin : x.i < N) (hi : x.i < 100) (ha : a3 (o x.i).1 = 1) (hb : bkB (o x.i).1 (o x.i).2 (hdO x.z.c0) (hdO x.z.c1) = false) {r : WR} {ep nx sn fl tm ii : Int} {hd : Bool} {l : List Int} (hc : x.z.c1 = some ⟨ep, nx, sn, fl, tm, ii, hd, l⟩) (hr : wStep R ⟨ep, nx, sn, fl, tm, ii, hd, l⟩ x.z.W x.z.st = r) (e0 : r.k = 2)
    (J : ∀ p, AJ1 p R q N cap o x ρ w I) : ∃ p, AG1 p R q N cap o x ρ w I := by
  have F := h.facts hin hi
  obtain ⟨i, ⟨W, st, kd, wd, vl, ch, stb, kdb, wdb, vlb, chb, f, n, c0, c1, c2, c3, p0, q0, p1, q1, p2, q2, p3, q3, d0, d1, d2, d3⟩⟩ := x
  dsimp only at hin hi ha hb hc hr F
  subst hc
  have b := h.b
  have m := h.m
  obtain ⟨hin1, hi1, ewi, r1, r2, hl, hl16, w0, w1, s0, s1, n0, n1⟩ := F
  have n2 : n < 1000000 := by omega
  have hcm := a3_cases (o i).2
  have ok : WOk R ⟨ep, nx, sn, fl, tm, ii, hd, l⟩ := b.o1
  have m1 := m.swap
  have aft := wAft (st := st) ok b.hw
  have hh := wHold (st := st) ok hl16
  rw [hr] at aft hh
  have hLn : r.W.length = 21 := aft.hl.trans hl
  have hLr := hLn.symm
  have hWn := aft.hw
  refine ⟨⟨f, c0, (some ⟨ep, nx, sn, fl, tm, ii, hd, l⟩), false, 1, false, 2, r, r00⟩, ?_⟩
  have hX := hXTu ⟨f, c0, (some ⟨ep, nx, sn, fl, tm, ii, hd, l⟩), false, 1, false, 2, r, r00⟩
  dsimp only [AG1, alT, alH, wdH]
  refine sxb hX [.r 9] [] 4000 rfl (by first | exact trivial | simp [conjP]) ?_
  refine sxb hX [.r 9] [.T, .T] 4000 rfl (by simp [conjP, hin, hin1, hi1, hb]) ?_
  simp only [Int.toNat_natCast, ha]
  refine sx hX [] 4000 rfl (by (simp [-List.getD_eq_getElem?_getD, -List.length_eq_zero_iff, conjP] <;> (first | omega | ((repeat' (refine And.intro ?_ ?_)) <;> (first | omega | exact decide_eq_false (by omega) | exact decide_eq_true (by omega)))))) ?_
  refine sx hX [.F] 4000 rfl (by (simp [-List.getD_eq_getElem?_getD, -List.length_eq_zero_iff, conjP, getH, HE.so, hin, hin1, r1, r2, hl, w0, w1, s0, s1, wrP, wrE, ok, hr, e0, hLn] <;> (first | omega | ((repeat' (refine And.intro ?_ ?_)) <;> (first | omega | exact decide_eq_false (by omega) | exact decide_eq_true (by omega)))))) ?_
  (refine ss_raw hX 9 2 rfl rfl fun v => ?_; refine J _ ⟨i + 1, ⟨r.W, st + 1, r.kd, r.wd, r.vl, r.ch, stb, kdb, wdb, vlb, chb, true, n, c0, none, c2, c3, p0, q0, v, q1, p2, q2, p3, q3, d0, d1, d2, d3⟩⟩ ?iv rfl _ _ _ (sub_of [0, 1, 2, 3, 4, 5, 20, 7, 8, 9, 10, 11, 12, 13, 60, 61, 16, 17, 18, 19] rfl rfl rfl rfl ?tt ?hh (by (repeat' (first | exact rfl | exact trivial | exact sim_refl _ | refine And.intro ?_ ?_))) ?ok); (case tt => simp only [ewi]; (repeat' (first | exact rfl | exact trivial | exact sim_refl _ | refine And.intro ?_ ?_)); done); (case hh => (((repeat' (first | exact rfl | exact trivial | exact sim_refl _ | exact simO_refl _ | exact subE_same rfl ren_wlE | exact subE_same rfl ren_rlE | exact subE_same rfl ren_bwE | exact subE_wrE rfl rfl | exact subE_rdE rfl rfl | exact sim_wrP rfl | exact sim_rdP rfl | exact sim_bsV rfl | assumption | refine And.intro ?_ ?_)); done))); (case ok => (((repeat' (first | exact rfl | exact trivial | exact okE_wlE | exact okE_rlE | exact okE_bwE | exact okE_wrE rfl | exact okE_rdE rfl | exact okP_wrP (i := 13) rfl | exact okP_wrP (i := 15) rfl | exact okP_rdP (i := 17) rfl | exact okP_rdP (i := 19) rfl | refine And.intro ?_ ?_)); done))); (case iv => exact AInv.next h (BInv.nx b hLn hWn (b.o0) (trivial) (b.o2) (b.o3)) (by dsimp only; omega) (by dsimp only; omega) ((m1.off hh (.inr e0)).swap)))
end
end Go.Proofs.YtmghcelohnlceaaGreatDoor
