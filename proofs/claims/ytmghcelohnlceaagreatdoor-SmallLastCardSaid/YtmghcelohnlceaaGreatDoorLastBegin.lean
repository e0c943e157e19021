/- SmallLast: the topic goes, and comes anew; a client begins. -/
import Derived.Test.YtmghcelohnlceaaGreatDoorLastHead
namespace Go.Proofs.YtmghcelohnlceaaGreatDoor
open Go Go.Hx
set_option maxRecDepth 8000
section
variable {R : Int} {N cap : Nat} {o : Nat → Int × Int} {x : LS} {ρ : Nat → Nat × Nat} {w : World} {I : Act → World → Prop}
abbrev LJJ (p : TP) (R : Int) (N cap : Nat) (o : Nat → Int × Int) (x : LS) (ρ : Nat → Nat × Nat) (w : World) (I : Act → World → Prop) : Prop :=
  ∀ x', LInv R N 0 x' → x'.i = x.i + 1 → ∀ cs T H, Sub (FEnv Tryz.prog (XTl p).TE (hXTl p).te Tryz.f6 Tryz.f6.ntmps [.obj (.rows N 2 (actR o)), pinE RTV] (Is .tt [.obj (.rows N 2 (actR o)), pinE RTV]) ρ w) T H (llT N cap x') (llH N o R x') →
    SS (hXTl p) (At ρ w) (Is .tt [.obj (.rows N 2 (actR o)), pinE RTV]) ⟨cs, [], Tryz.f6, Tryz.f6.ntmps, [.obj (.rows N 2 (actR o)), pinE RTV], downLp (contF Tryz.f6 8 [I]), T, H⟩
abbrev LG (p : TP) (R : Int) (N cap : Nat) (o : Nat → Int × Int) (x : LS) (ρ : Nat → Nat × Nat) (w : World) (I : Act → World → Prop) : Prop :=
  SS (hXTl p) (At ρ w) (Is .tt [.obj (.rows N 2 (actR o)), pinE RTV]) ⟨[], [], Tryz.f6, Tryz.f6.ntmps, [.obj (.rows N 2 (actR o)), pinE RTV], contF Tryz.f6 8 [I], llT N cap x, llH N o R x⟩
/-- Where a client has its turn. -/
abbrev LK (p : TP) (K : Int) (R : Int) (N cap : Nat) (o : Nat → Int × Int) (x : LS) (ρ : Nat → Nat × Nat) (w : World) (I : Act → World → Prop) : Prop :=
  SS (hXTl p) (At ρ w) (Is .tt [.obj (.rows N 2 (actR o)), pinE RTV]) ⟨[], [], Tryz.f6, Tryz.f6.ntmps, [.obj (.rows N 2 (actR o)), pinE RTV], contF Tryz.f6 17 [I], lkT K N cap x, llH N o R x⟩
set_option maxHeartbeats 4000000 in
theorem lbk (h : LInv R N 0 x) (hin : x.i < N) (hi : x.i < 150) (hb : bkB (o x.i).1 (o x.i).2 (hdO x.z.c0) (hdO x.z.c1) = true) (J : ∀ p, LJJ p R N cap o x ρ w I) : ∃ p, LG p R N cap o x ρ w I := by
  have F := h.facts hin hi
  obtain ⟨i, ⟨W, st, kd, wd, vl, ch, stb, kdb, wdb, vlb, chb, f, n, c0, c1, c2, c3, p0, q0, p1, q1, p2, q2, p3, q3, d0, d1, d2, d3⟩, now, bm, mm⟩ := x
  dsimp only at hin hi hb F
  have b := h.b
  obtain ⟨hin1, hi1, ewi, r1, r2, hl, hl16, w0, w1, s0, s1, n0, n1⟩ := F
  have t0 : 0 ≤ stb := b.t0
  have t1 : stb < 1000000 := by have h1 : stb ≤ 100 + 2 * ((2 * i + 0 : Nat) : Int) := b.t1; omega
  obtain ⟨k0, k1⟩ := bk_hd hb
  have hLn : (((W.set 7 (goneW (W.getD 7 0))).set 7 (bornW (goneW (W.getD 7 0))))).length = 21 := by simp only [List.length_set]; exact hl
  have hWn : ∀ j, 0 ≤ (((W.set 7 (goneW (W.getD 7 0))).set 7 (bornW (goneW (W.getD 7 0))))).getD j 0 ∧ (((W.set 7 (goneW (W.getD 7 0))).set 7 (bornW (goneW (W.getD 7 0))))).getD j 0 < 18446744073709551616 := rg_set (rg_set b.hw gone_r.1 gone_r.2) (born_r gone_r.1).1 (born_r gone_r.1).2
  refine ⟨⟨f, c0, c1, true, 0, false, 0, w00, r00⟩, ?_⟩
  have hX := hXTl ⟨f, c0, c1, true, 0, false, 0, w00, r00⟩
  dsimp only [LG, llT, llH, wdH]
  refine sx hX [] 4000 rfl (by (simp [-List.getD_eq_getElem?_getD, -List.length_eq_zero_iff, conjP])) ?_
  refine sx hX [.T] 4000 rfl (by (simp [-List.getD_eq_getElem?_getD, -List.length_eq_zero_iff, conjP, addOP, hin1])) ?_
  refine sx hX [.T] 4000 rfl (by (simp [-List.getD_eq_getElem?_getD, -List.length_eq_zero_iff, conjP, hin, hin1, hi1, hb, r1, r2, hl, w0, w1, s0, s1, t0, t1, Int.toNat_natCast])) ?_
  refine sx hX [.T] 4000 rfl (by (simp [-List.getD_eq_getElem?_getD, -List.length_eq_zero_iff, conjP, addOP])) ?_
  (refine J _ ⟨i + 1, ⟨((W.set 7 (goneW (W.getD 7 0))).set 7 (bornW (goneW (W.getD 7 0)))), st + 1 + 1, 2, 7, (bornW (goneW (W.getD 7 0))), true, stb + 1 + 1, 2, 7, (bornW (goneW (W.getD 7 0))), true, f, n, c0, c1, c2, c3, p0, q0, p1, q1, p2, q2, p3, q3, d0, d1, d2, d3⟩, 0, bm, mm⟩ ?iv rfl _ _ _ (sub_of [0, 1, 2, 3, 4, 5, 6, 7, 8, 9, 10, 11, 12, 13, 14, 15, 16, 17, 18, 19, 20] rfl rfl rfl rfl ?tt ?hh ?ot ?ok); (case tt => simp only [ewi]; (exact clhA)); (case hh => (exact clhA)); (case ot => (exact clkA)); (case ok => (exact clkA)); (case iv => exact ⟨(BInv.next b (z' := ⟨((W.set 7 (goneW (W.getD 7 0))).set 7 (bornW (goneW (W.getD 7 0)))), st + 1 + 1, 2, 7, (bornW (goneW (W.getD 7 0))), true, stb + 1 + 1, 2, 7, (bornW (goneW (W.getD 7 0))), true, f, n, c0, c1, c2, c3, p0, q0, p1, q1, p2, q2, p3, q3, d0, d1, d2, d3⟩) (by show 2 * i + 0 + 1 ≤ 10000; omega) hLn hWn (by show st ≤ st + 1 + 1; omega) (by show st + 1 + 1 ≤ st + 2; omega) (by show stb ≤ stb + 1 + 1; omega) (by show stb + 1 + 1 ≤ stb + 2; omega) (by show n ≤ n; omega) (by show n ≤ n + 1; omega) b.o0 b.o1 b.o2 b.o3).mono (by show 2 * i + 0 + 1 ≤ 2 * (i + 1) + 0; omega) (by show 2 * (i + 1) + 0 ≤ 10000; omega), by show i + 1 + 0 ≤ N; omega, by show i + 1 + 0 ≤ 150; omega, MI.idle b.o0 b.o1 k0 k1, h.j.back b.o0 b.o1 k0 k1 hl, h.bf⟩))
set_option maxHeartbeats 4000000 in
theorem lg0a (h : LInv R N 0 x) (hin : x.i < N) (hi : x.i < 150) (ha : a3 (o x.i).1 = 0) (hb : bkB (o x.i).1 (o x.i).2 (hdO x.z.c0) (hdO x.z.c1) = false) (hc : x.z.c0 = none) (hbm : x.b = false)
    (J : ∀ x', LInv R N 1 x' → x'.i = x.i → x'.z.c0 ≠ none → ∃ p, LK p 0 R N cap o x' ρ w I) : ∃ p, LG p R N cap o x ρ w I := by
  have F := h.facts hin hi
  obtain ⟨i, ⟨W, st, kd, wd, vl, ch, stb, kdb, wdb, vlb, chb, f, n, c0, c1, c2, c3, p0, q0, p1, q1, p2, q2, p3, q3, d0, d1, d2, d3⟩, now, bm, mm⟩ := x
  dsimp only at hin hi ha hb hc F hbm
  subst hc
  subst hbm
  have b := h.b
  obtain ⟨hin1, hi1, ewi, r1, r2, hl, hl16, w0, w1, s0, s1, n0, n1⟩ := F
  have n2 : n < 1000000 := by omega
  have hcm := a3_cases (o i).2
  have hmm : mm.length ≤ 1000000000 := by have := h.j.nm; dsimp only at this; omega
  have hwl : (mm ++ [1 + a3 (o i).2]).length = mm.length + 1 := by simp
  have hwr := hwl.symm
  have hrl : (1 + a3 (o i).2).toNat = (List.replicate (1 + a3 (o i).2).toNat (n + 1)).length := by simp
  have n3 : n + 1 ≤ 1000000 := by omega
  have ewm : IntKind.i64.wrap (1 + ibits .and .i64 (o i).2 3) = 1 + a3 (o i).2 := wrap_id (by show -1000000000 ≤ 1 + a3 (o i).2; omega) (by show 1 + a3 (o i).2 ≤ 1000000000; omega)
  have ml : mm.length = 1 := h.bf rfl
  have hwl2 : (mm ++ [1 + a3 (o i).2]).length = 1 + 1 := by simp [ml]
  have hwr2 := hwl2.symm
  have htk : List.take (mulS 1 1) mm ++ List.take (mulS 1 1) (List.drop 0 [1 + a3 (o i).2]) = mm ++ [1 + a3 (o i).2] := by rw [show mulS 1 1 = 1 from rfl, List.take_of_length_le (by omega)]; rfl
  refine ⟨⟨f, none, c1, false, 0, true, 0, w00, r00⟩, ?_⟩
  have hX := hXTl ⟨f, none, c1, false, 0, true, 0, w00, r00⟩
  dsimp only [LG, llT, llH, wdH]
  refine sxb hX [.r 11] [] 4000 rfl (by first | exact trivial | simp [conjP]) ?_
  refine sxb hX [.r 11] [.T, .T] 4000 rfl (by simp [conjP, hin, hin1, hi1, hb]) ?_
  simp only [Int.toNat_natCast, ha]
  refine sxb hX [.r 17] [] 4000 rfl (by (simp [-List.getD_eq_getElem?_getD, -List.length_eq_zero_iff, conjP])) ?_
  refine sxb hX [.r 17] [.F] 4000 rfl (by (simp [-List.getD_eq_getElem?_getD, -List.length_eq_zero_iff, conjP, hin, hin1, r1, r2, hl, w0, w1, n0, n2, wrP, Int.toNat_natCast])) ?_
  refine sxb hX [.r 17] [.T] 4000 rfl (by (simp [-List.getD_eq_getElem?_getD, -List.length_eq_zero_iff, conjP, hin, hin1, Int.toNat_natCast, ml] <;> (first | omega | ((repeat' (refine And.intro ?_ ?_)) <;> (first | omega | exact decide_eq_false (by omega) | exact decide_eq_true (by omega)))))) ?_
  (refine ss_raw hX 8 2 rfl rfl fun v => ?_; obtain ⟨pp, h1⟩ := J ⟨i, ⟨W, st, kd, wd, vl, ch, stb, kdb, wdb, vlb, chb, f, n + 1, some ⟨epW (W.getD 7 0), 1, 0, 0, 0, 0, false, List.replicate (1 + a3 (o i).2).toNat (n + 1)⟩, c1, c2, c3, v, q0, p1, q1, p2, q2, p3, q3, n + 1, d1, d2, d3⟩, now, true, mm ++ [(1 + a3 (o i).2)]⟩ ⟨BInv.nx b b.hl b.hw (wok_new r1 (by omega) (by omega) (by omega) (by omega)) (b.o1) (b.o2) (b.o3) (hi := by show 2 * i + 0 + 1 ≤ 10000; omega), by show i + 1 ≤ N; omega, by show i + 1 ≤ 150; omega, h.m.new rfl, h.j.new (by omega) (by omega) n0, fun q => by cases q⟩ rfl (fun q => by cases q); refine ss_sub hX (T' := lkT 0 N cap ⟨i, ⟨W, st, kd, wd, vl, ch, stb, kdb, wdb, vlb, chb, f, n + 1, some ⟨epW (W.getD 7 0), 1, 0, 0, 0, 0, false, List.replicate (1 + a3 (o i).2).toNat (n + 1)⟩, c1, c2, c3, v, q0, p1, q1, p2, q2, p3, q3, n + 1, d1, d2, d3⟩, now, true, mm ++ [(1 + a3 (o i).2)]⟩) (H' := llH N o R ⟨i, ⟨W, st, kd, wd, vl, ch, stb, kdb, wdb, vlb, chb, f, n + 1, some ⟨epW (W.getD 7 0), 1, 0, 0, 0, 0, false, List.replicate (1 + a3 (o i).2).toNat (n + 1)⟩, c1, c2, c3, v, q0, p1, q1, p2, q2, p3, q3, n + 1, d1, d2, d3⟩, now, true, mm ++ [(1 + a3 (o i).2)]⟩) [0, 1, 2, 3, 4, 5, 6, 7, 8, 9, 10, 11, 21, 22, 14, 15, 16, 17, 18, 19, 26] rfl rfl rfl rfl ?tt ?hh ?ot ?ok (ss_sw hX (sw_ss (hXTl pp) (cs := []) h1)); (case tt => (exact clhA)); (case hh => simp only [Int.toNat_natCast, ewm]; (exact clhA)); (case ot => (exact clkA)); (case ok => (exact clkA)))
set_option maxHeartbeats 4000000 in
theorem lg0b (h : LInv R N 0 x) (hin : x.i < N) (hi : x.i < 150) (ha : a3 (o x.i).1 = 0) (hb : bkB (o x.i).1 (o x.i).2 (hdO x.z.c0) (hdO x.z.c1) = false) (hc : x.z.c0 = none) (hbm : x.b = true)
    (J : ∀ x', LInv R N 1 x' → x'.i = x.i → x'.z.c0 ≠ none → ∃ p, LK p 0 R N cap o x' ρ w I) : ∃ p, LG p R N cap o x ρ w I := by
  have F := h.facts hin hi
  obtain ⟨i, ⟨W, st, kd, wd, vl, ch, stb, kdb, wdb, vlb, chb, f, n, c0, c1, c2, c3, p0, q0, p1, q1, p2, q2, p3, q3, d0, d1, d2, d3⟩, now, bm, mm⟩ := x
  dsimp only at hin hi ha hb hc F hbm
  subst hc
  subst hbm
  have b := h.b
  obtain ⟨hin1, hi1, ewi, r1, r2, hl, hl16, w0, w1, s0, s1, n0, n1⟩ := F
  have n2 : n < 1000000 := by omega
  have hcm := a3_cases (o i).2
  have hmm : mm.length ≤ 1000000000 := by have := h.j.nm; dsimp only at this; omega
  have hwl : (mm ++ [1 + a3 (o i).2]).length = mm.length + 1 := by simp
  have hwr := hwl.symm
  have hrl : (1 + a3 (o i).2).toNat = (List.replicate (1 + a3 (o i).2).toNat (n + 1)).length := by simp
  have n3 : n + 1 ≤ 1000000 := by omega
  have ewm : IntKind.i64.wrap (1 + ibits .and .i64 (o i).2 3) = 1 + a3 (o i).2 := wrap_id (by show -1000000000 ≤ 1 + a3 (o i).2; omega) (by show 1 + a3 (o i).2 ≤ 1000000000; omega)
  refine ⟨⟨f, none, c1, false, 0, true, 0, w00, r00⟩, ?_⟩
  have hX := hXTl ⟨f, none, c1, false, 0, true, 0, w00, r00⟩
  dsimp only [LG, llT, llH, wdH]
  refine sxb hX [.r 11] [] 4000 rfl (by first | exact trivial | simp [conjP]) ?_
  refine sxb hX [.r 11] [.T, .T] 4000 rfl (by simp [conjP, hin, hin1, hi1, hb]) ?_
  simp only [Int.toNat_natCast, ha]
  refine sxb hX [.r 17] [] 4000 rfl (by (simp [-List.getD_eq_getElem?_getD, -List.length_eq_zero_iff, conjP])) ?_
  refine sxb hX [.r 17] [.F] 4000 rfl (by (simp [-List.getD_eq_getElem?_getD, -List.length_eq_zero_iff, conjP, hin, hin1, r1, r2, hl, w0, w1, n0, n2, wrP, Int.toNat_natCast])) ?_
  refine sxb hX [.r 17] [.T] 4000 rfl (by (simp [-List.getD_eq_getElem?_getD, -List.length_eq_zero_iff, conjP, hin, hin1, Int.toNat_natCast] <;> (first | omega | ((repeat' (refine And.intro ?_ ?_)) <;> (first | omega | exact decide_eq_false (by omega) | exact decide_eq_true (by omega)))))) ?_
  (refine ss_raw hX 8 2 rfl rfl fun v => ?_; obtain ⟨pp, h1⟩ := J ⟨i, ⟨W, st, kd, wd, vl, ch, stb, kdb, wdb, vlb, chb, f, n + 1, some ⟨epW (W.getD 7 0), 1, 0, 0, 0, 0, false, List.replicate (1 + a3 (o i).2).toNat (n + 1)⟩, c1, c2, c3, v, q0, p1, q1, p2, q2, p3, q3, n + 1, d1, d2, d3⟩, now, true, mm ++ [(1 + a3 (o i).2)]⟩ ⟨BInv.nx b b.hl b.hw (wok_new r1 (by omega) (by omega) (by omega) (by omega)) (b.o1) (b.o2) (b.o3) (hi := by show 2 * i + 0 + 1 ≤ 10000; omega), by show i + 1 ≤ N; omega, by show i + 1 ≤ 150; omega, h.m.new rfl, h.j.new (by omega) (by omega) n0, fun q => by cases q⟩ rfl (fun q => by cases q); refine ss_sub hX (T' := lkT 0 N cap ⟨i, ⟨W, st, kd, wd, vl, ch, stb, kdb, wdb, vlb, chb, f, n + 1, some ⟨epW (W.getD 7 0), 1, 0, 0, 0, 0, false, List.replicate (1 + a3 (o i).2).toNat (n + 1)⟩, c1, c2, c3, v, q0, p1, q1, p2, q2, p3, q3, n + 1, d1, d2, d3⟩, now, true, mm ++ [(1 + a3 (o i).2)]⟩) (H' := llH N o R ⟨i, ⟨W, st, kd, wd, vl, ch, stb, kdb, wdb, vlb, chb, f, n + 1, some ⟨epW (W.getD 7 0), 1, 0, 0, 0, 0, false, List.replicate (1 + a3 (o i).2).toNat (n + 1)⟩, c1, c2, c3, v, q0, p1, q1, p2, q2, p3, q3, n + 1, d1, d2, d3⟩, now, true, mm ++ [(1 + a3 (o i).2)]⟩) [0, 1, 2, 3, 4, 5, 6, 7, 8, 9, 10, 11, 21, 22, 14, 15, 16, 17, 18, 19, 26] rfl rfl rfl rfl ?tt ?hh ?ot ?ok (ss_sw hX (sw_ss (hXTl pp) (cs := []) h1)); (case tt => (exact clhA)); (case hh => simp only [Int.toNat_natCast, ewm]; (exact clhA)); (case ot => (exact clkA)); (case ok => (exact clkA)))
set_option maxHeartbeats 4000000 in
theorem lo0 (h : LInv R N 0 x) (hin : x.i < N) (hi : x.i < 150) (ha : a3 (o x.i).1 = 0) (hb : bkB (o x.i).1 (o x.i).2 (hdO x.z.c0) (hdO x.z.c1) = false) {ep nx sn fl tm ii : Int} {hd : Bool} {l : List Int} (hc : x.z.c0 = some ⟨ep, nx, sn, fl, tm, ii, hd, l⟩)
    (J : ∀ x', LInv R N 1 x' → x'.i = x.i → x'.z.c0 ≠ none → ∃ p, LK p 0 R N cap o x' ρ w I) : ∃ p, LG p R N cap o x ρ w I := by
  have F := h.facts hin hi
  obtain ⟨i, ⟨W, st, kd, wd, vl, ch, stb, kdb, wdb, vlb, chb, f, n, c0, c1, c2, c3, p0, q0, p1, q1, p2, q2, p3, q3, d0, d1, d2, d3⟩, now, bm, mm⟩ := x
  dsimp only at hin hi ha hb hc F
  subst hc
  have b := h.b
  obtain ⟨hin1, hi1, ewi, r1, r2, hl, hl16, w0, w1, s0, s1, n0, n1⟩ := F
  refine ⟨⟨f, some ⟨ep, nx, sn, fl, tm, ii, hd, l⟩, c1, false, 0, false, 0, w00, r00⟩, ?_⟩
  have hX := hXTl ⟨f, some ⟨ep, nx, sn, fl, tm, ii, hd, l⟩, c1, false, 0, false, 0, w00, r00⟩
  dsimp only [LG, llT, llH, wdH]
  refine sxb hX [.r 11] [] 4000 rfl (by first | exact trivial | simp [conjP]) ?_
  refine sxb hX [.r 11] [.T, .T] 4000 rfl (by simp [conjP, hin, hin1, hi1, hb]) ?_
  simp only [Int.toNat_natCast, ha]
  refine sxb hX [.r 17] [] 4000 rfl (by (simp [-List.getD_eq_getElem?_getD, -List.length_eq_zero_iff, conjP])) ?_
  refine sxb hX [.r 17] [.F] 4000 rfl (by (simp [-List.getD_eq_getElem?_getD, -List.length_eq_zero_iff, conjP, getH, HE.so, hin, hin1, wrP, wrE])) ?_
  refine sxb hX [.r 17] [.F] 4000 rfl (by (simp [-List.getD_eq_getElem?_getD, -List.length_eq_zero_iff, conjP, addOP])) ?_
  (obtain ⟨pp, h1⟩ := J ⟨i, ⟨W, st, kd, wd, vl, ch, stb, kdb, wdb, vlb, chb, f, n, some ⟨ep, nx, sn, fl, tm, ii, hd, l⟩, c1, c2, c3, p0, q0, p1, q1, p2, q2, p3, q3, d0, d1, d2, d3⟩, now, bm, mm⟩ ⟨b.mono (by show 2 * i + 0 ≤ 2 * i + 1; omega) (by show 2 * i + 1 ≤ 10000; omega), by show i + 1 ≤ N; omega, by show i + 1 ≤ 150; omega, h.m, h.j, h.bf⟩ rfl (fun q => by cases q); refine ss_sub hX (T' := lkT 0 N cap ⟨i, ⟨W, st, kd, wd, vl, ch, stb, kdb, wdb, vlb, chb, f, n, some ⟨ep, nx, sn, fl, tm, ii, hd, l⟩, c1, c2, c3, p0, q0, p1, q1, p2, q2, p3, q3, d0, d1, d2, d3⟩, now, bm, mm⟩) (H' := llH N o R ⟨i, ⟨W, st, kd, wd, vl, ch, stb, kdb, wdb, vlb, chb, f, n, some ⟨ep, nx, sn, fl, tm, ii, hd, l⟩, c1, c2, c3, p0, q0, p1, q1, p2, q2, p3, q3, d0, d1, d2, d3⟩, now, bm, mm⟩) [0, 1, 2, 3, 4, 5, 6, 7, 8, 9, 10, 11, 12, 13, 14, 15, 16, 17, 18, 19, 20] rfl rfl rfl rfl ?tt ?hh ?ot ?ok (ss_sw hX (sw_ss (hXTl pp) (cs := []) h1)); (case tt => (exact clhA)); (case hh => (exact clhA)); (case ot => (exact clkA)); (case ok => (exact clkA)))
set_option maxHeartbeats 4000000 in
theorem lg1a (h : LInv R N 0 x) (hin : x.i < N) (hi : x.i < 150) (ha : a3 (o x.i).1 = 1) (hb : bkB (o x.i).1 (o x.i).2 (hdO x.z.c0) (hdO x.z.c1) = false) (hc : x.z.c1 = none) (hbm : x.b = false)
    (J : ∀ x', LInv R N 1 x' → x'.i = x.i → x'.z.c1 ≠ none → ∃ p, LK p 1 R N cap o x' ρ w I) : ∃ p, LG p R N cap o x ρ w I := by
  have F := h.facts hin hi
  obtain ⟨i, ⟨W, st, kd, wd, vl, ch, stb, kdb, wdb, vlb, chb, f, n, c0, c1, c2, c3, p0, q0, p1, q1, p2, q2, p3, q3, d0, d1, d2, d3⟩, now, bm, mm⟩ := x
  dsimp only at hin hi ha hb hc F hbm
  subst hc
  subst hbm
  have b := h.b
  obtain ⟨hin1, hi1, ewi, r1, r2, hl, hl16, w0, w1, s0, s1, n0, n1⟩ := F
  have n2 : n < 1000000 := by omega
  have hcm := a3_cases (o i).2
  have hmm : mm.length ≤ 1000000000 := by have := h.j.nm; dsimp only at this; omega
  have hwl : (mm ++ [1 + a3 (o i).2]).length = mm.length + 1 := by simp
  have hwr := hwl.symm
  have hrl : (1 + a3 (o i).2).toNat = (List.replicate (1 + a3 (o i).2).toNat (n + 1)).length := by simp
  have n3 : n + 1 ≤ 1000000 := by omega
  have ewm : IntKind.i64.wrap (1 + ibits .and .i64 (o i).2 3) = 1 + a3 (o i).2 := wrap_id (by show -1000000000 ≤ 1 + a3 (o i).2; omega) (by show 1 + a3 (o i).2 ≤ 1000000000; omega)
  have ml : mm.length = 1 := h.bf rfl
  have hwl2 : (mm ++ [1 + a3 (o i).2]).length = 1 + 1 := by simp [ml]
  have hwr2 := hwl2.symm
  have htk : List.take (mulS 1 1) mm ++ List.take (mulS 1 1) (List.drop 0 [1 + a3 (o i).2]) = mm ++ [1 + a3 (o i).2] := by rw [show mulS 1 1 = 1 from rfl, List.take_of_length_le (by omega)]; rfl
  refine ⟨⟨f, c0, none, false, 1, true, 0, w00, r00⟩, ?_⟩
  have hX := hXTl ⟨f, c0, none, false, 1, true, 0, w00, r00⟩
  dsimp only [LG, llT, llH, wdH]
  refine sxb hX [.r 11] [] 4000 rfl (by first | exact trivial | simp [conjP]) ?_
  refine sxb hX [.r 11] [.T, .T] 4000 rfl (by simp [conjP, hin, hin1, hi1, hb]) ?_
  simp only [Int.toNat_natCast, ha]
  refine sxb hX [.r 17] [] 4000 rfl (by (simp [-List.getD_eq_getElem?_getD, -List.length_eq_zero_iff, conjP])) ?_
  refine sxb hX [.r 17] [.F] 4000 rfl (by (simp [-List.getD_eq_getElem?_getD, -List.length_eq_zero_iff, conjP, hin, hin1, r1, r2, hl, w0, w1, n0, n2, wrP, Int.toNat_natCast])) ?_
  refine sxb hX [.r 17] [.T] 4000 rfl (by (simp [-List.getD_eq_getElem?_getD, -List.length_eq_zero_iff, conjP, hin, hin1, Int.toNat_natCast, ml] <;> (first | omega | ((repeat' (refine And.intro ?_ ?_)) <;> (first | omega | exact decide_eq_false (by omega) | exact decide_eq_true (by omega)))))) ?_
  (refine ss_raw hX 9 2 rfl rfl fun v => ?_; obtain ⟨pp, h1⟩ := J ⟨i, ⟨W, st, kd, wd, vl, ch, stb, kdb, wdb, vlb, chb, f, n + 1, c0, some ⟨epW (W.getD 7 0), 1, 0, 0, 0, 0, false, List.replicate (1 + a3 (o i).2).toNat (n + 1)⟩, c2, c3, p0, q0, v, q1, p2, q2, p3, q3, d0, n + 1, d2, d3⟩, now, true, mm ++ [(1 + a3 (o i).2)]⟩ ⟨BInv.nx b b.hl b.hw (b.o0) (wok_new r1 (by omega) (by omega) (by omega) (by omega)) (b.o2) (b.o3) (hi := by show 2 * i + 0 + 1 ≤ 10000; omega), by show i + 1 ≤ N; omega, by show i + 1 ≤ 150; omega, (h.m.swap.new rfl).swap, (h.j.swap.new (by omega) (by omega) n0).swap, fun q => by cases q⟩ rfl (fun q => by cases q); refine ss_sub hX (T' := lkT 1 N cap ⟨i, ⟨W, st, kd, wd, vl, ch, stb, kdb, wdb, vlb, chb, f, n + 1, c0, some ⟨epW (W.getD 7 0), 1, 0, 0, 0, 0, false, List.replicate (1 + a3 (o i).2).toNat (n + 1)⟩, c2, c3, p0, q0, v, q1, p2, q2, p3, q3, d0, n + 1, d2, d3⟩, now, true, mm ++ [(1 + a3 (o i).2)]⟩) (H' := llH N o R ⟨i, ⟨W, st, kd, wd, vl, ch, stb, kdb, wdb, vlb, chb, f, n + 1, c0, some ⟨epW (W.getD 7 0), 1, 0, 0, 0, 0, false, List.replicate (1 + a3 (o i).2).toNat (n + 1)⟩, c2, c3, p0, q0, v, q1, p2, q2, p3, q3, d0, n + 1, d2, d3⟩, now, true, mm ++ [(1 + a3 (o i).2)]⟩) [0, 1, 2, 3, 4, 5, 6, 7, 8, 9, 10, 11, 12, 13, 21, 22, 16, 17, 18, 19, 26] rfl rfl rfl rfl ?tt ?hh ?ot ?ok (ss_sw hX (sw_ss (hXTl pp) (cs := []) h1)); (case tt => (exact clhA)); (case hh => simp only [Int.toNat_natCast, ewm]; (exact clhA)); (case ot => (exact clkA)); (case ok => (exact clkA)))
set_option maxHeartbeats 4000000 in
theorem lg1b (h : LInv R N 0 x) (hin : x.i < N) (hi : x.i < 150) (ha : a3 (o x.i).1 = 1) (hb : bkB (o x.i).1 (o x.i).2 (hdO x.z.c0) (hdO x.z.c1) = false) (hc : x.z.c1 = none) (hbm : x.b = true)
    (J : ∀ x', LInv R N 1 x' → x'.i = x.i → x'.z.c1 ≠ none → ∃ p, LK p 1 R N cap o x' ρ w I) : ∃ p, LG p R N cap o x ρ w I := by
  have F := h.facts hin hi
  obtain ⟨i, ⟨W, st, kd, wd, vl, ch, stb, kdb, wdb, vlb, chb, f, n, c0, c1, c2, c3, p0, q0, p1, q1, p2, q2, p3, q3, d0, d1, d2, d3⟩, now, bm, mm⟩ := x
  dsimp only at hin hi ha hb hc F hbm
  subst hc
  subst hbm
  have b := h.b
  obtain ⟨hin1, hi1, ewi, r1, r2, hl, hl16, w0, w1, s0, s1, n0, n1⟩ := F
  have n2 : n < 1000000 := by omega
  have hcm := a3_cases (o i).2
  have hmm : mm.length ≤ 1000000000 := by have := h.j.nm; dsimp only at this; omega
  have hwl : (mm ++ [1 + a3 (o i).2]).length = mm.length + 1 := by simp
  have hwr := hwl.symm
  have hrl : (1 + a3 (o i).2).toNat = (List.replicate (1 + a3 (o i).2).toNat (n + 1)).length := by simp
  have n3 : n + 1 ≤ 1000000 := by omega
  have ewm : IntKind.i64.wrap (1 + ibits .and .i64 (o i).2 3) = 1 + a3 (o i).2 := wrap_id (by show -1000000000 ≤ 1 + a3 (o i).2; omega) (by show 1 + a3 (o i).2 ≤ 1000000000; omega)
  refine ⟨⟨f, c0, none, false, 1, true, 0, w00, r00⟩, ?_⟩
  have hX := hXTl ⟨f, c0, none, false, 1, true, 0, w00, r00⟩
  dsimp only [LG, llT, llH, wdH]
  refine sxb hX [.r 11] [] 4000 rfl (by first | exact trivial | simp [conjP]) ?_
  refine sxb hX [.r 11] [.T, .T] 4000 rfl (by simp [conjP, hin, hin1, hi1, hb]) ?_
  simp only [Int.toNat_natCast, ha]
  refine sxb hX [.r 17] [] 4000 rfl (by (simp [-List.getD_eq_getElem?_getD, -List.length_eq_zero_iff, conjP])) ?_
  refine sxb hX [.r 17] [.F] 4000 rfl (by (simp [-List.getD_eq_getElem?_getD, -List.length_eq_zero_iff, conjP, hin, hin1, r1, r2, hl, w0, w1, n0, n2, wrP, Int.toNat_natCast])) ?_
  refine sxb hX [.r 17] [.T] 4000 rfl (by (simp [-List.getD_eq_getElem?_getD, -List.length_eq_zero_iff, conjP, hin, hin1, Int.toNat_natCast] <;> (first | omega | ((repeat' (refine And.intro ?_ ?_)) <;> (first | omega | exact decide_eq_false (by omega) | exact decide_eq_true (by omega)))))) ?_
  (refine ss_raw hX 9 2 rfl rfl fun v => ?_; obtain ⟨pp, h1⟩ := J ⟨i, ⟨W, st, kd, wd, vl, ch, stb, kdb, wdb, vlb, chb, f, n + 1, c0, some ⟨epW (W.getD 7 0), 1, 0, 0, 0, 0, false, List.replicate (1 + a3 (o i).2).toNat (n + 1)⟩, c2, c3, p0, q0, v, q1, p2, q2, p3, q3, d0, n + 1, d2, d3⟩, now, true, mm ++ [(1 + a3 (o i).2)]⟩ ⟨BInv.nx b b.hl b.hw (b.o0) (wok_new r1 (by omega) (by omega) (by omega) (by omega)) (b.o2) (b.o3) (hi := by show 2 * i + 0 + 1 ≤ 10000; omega), by show i + 1 ≤ N; omega, by show i + 1 ≤ 150; omega, (h.m.swap.new rfl).swap, (h.j.swap.new (by omega) (by omega) n0).swap, fun q => by cases q⟩ rfl (fun q => by cases q); refine ss_sub hX (T' := lkT 1 N cap ⟨i, ⟨W, st, kd, wd, vl, ch, stb, kdb, wdb, vlb, chb, f, n + 1, c0, some ⟨epW (W.getD 7 0), 1, 0, 0, 0, 0, false, List.replicate (1 + a3 (o i).2).toNat (n + 1)⟩, c2, c3, p0, q0, v, q1, p2, q2, p3, q3, d0, n + 1, d2, d3⟩, now, true, mm ++ [(1 + a3 (o i).2)]⟩) (H' := llH N o R ⟨i, ⟨W, st, kd, wd, vl, ch, stb, kdb, wdb, vlb, chb, f, n + 1, c0, some ⟨epW (W.getD 7 0), 1, 0, 0, 0, 0, false, List.replicate (1 + a3 (o i).2).toNat (n + 1)⟩, c2, c3, p0, q0, v, q1, p2, q2, p3, q3, d0, n + 1, d2, d3⟩, now, true, mm ++ [(1 + a3 (o i).2)]⟩) [0, 1, 2, 3, 4, 5, 6, 7, 8, 9, 10, 11, 12, 13, 21, 22, 16, 17, 18, 19, 26] rfl rfl rfl rfl ?tt ?hh ?ot ?ok (ss_sw hX (sw_ss (hXTl pp) (cs := []) h1)); (case tt => (exact clhA)); (case hh => simp only [Int.toNat_natCast, ewm]; (exact clhA)); (case ot => (exact clkA)); (case ok => (exact clkA)))
set_option maxHeartbeats 4000000 in
theorem lo1 (h : LInv R N 0 x) (hin : x.i < N) (hi : x.i < 150) (ha : a3 (o x.i).1 = 1) (hb : bkB (o x.i).1 (o x.i).2 (hdO x.z.c0) (hdO x.z.c1) = false) {ep nx sn fl tm ii : Int} {hd : Bool} {l : List Int} (hc : x.z.c1 = some ⟨ep, nx, sn, fl, tm, ii, hd, l⟩)
    (J : ∀ x', LInv R N 1 x' → x'.i = x.i → x'.z.c1 ≠ none → ∃ p, LK p 1 R N cap o x' ρ w I) : ∃ p, LG p R N cap o x ρ w I := by
  have F := h.facts hin hi
  obtain ⟨i, ⟨W, st, kd, wd, vl, ch, stb, kdb, wdb, vlb, chb, f, n, c0, c1, c2, c3, p0, q0, p1, q1, p2, q2, p3, q3, d0, d1, d2, d3⟩, now, bm, mm⟩ := x
  dsimp only at hin hi ha hb hc F
  subst hc
  have b := h.b
  obtain ⟨hin1, hi1, ewi, r1, r2, hl, hl16, w0, w1, s0, s1, n0, n1⟩ := F
  refine ⟨⟨f, c0, some ⟨ep, nx, sn, fl, tm, ii, hd, l⟩, false, 1, false, 0, w00, r00⟩, ?_⟩
  have hX := hXTl ⟨f, c0, some ⟨ep, nx, sn, fl, tm, ii, hd, l⟩, false, 1, false, 0, w00, r00⟩
  dsimp only [LG, llT, llH, wdH]
  refine sxb hX [.r 11] [] 4000 rfl (by first | exact trivial | simp [conjP]) ?_
  refine sxb hX [.r 11] [.T, .T] 4000 rfl (by simp [conjP, hin, hin1, hi1, hb]) ?_
  simp only [Int.toNat_natCast, ha]
  refine sxb hX [.r 17] [] 4000 rfl (by (simp [-List.getD_eq_getElem?_getD, -List.length_eq_zero_iff, conjP])) ?_
  refine sxb hX [.r 17] [.F] 4000 rfl (by (simp [-List.getD_eq_getElem?_getD, -List.length_eq_zero_iff, conjP, getH, HE.so, hin, hin1, wrP, wrE])) ?_
  refine sxb hX [.r 17] [.F] 4000 rfl (by (simp [-List.getD_eq_getElem?_getD, -List.length_eq_zero_iff, conjP, addOP])) ?_
  (obtain ⟨pp, h1⟩ := J ⟨i, ⟨W, st, kd, wd, vl, ch, stb, kdb, wdb, vlb, chb, f, n, c0, some ⟨ep, nx, sn, fl, tm, ii, hd, l⟩, c2, c3, p0, q0, p1, q1, p2, q2, p3, q3, d0, d1, d2, d3⟩, now, bm, mm⟩ ⟨b.mono (by show 2 * i + 0 ≤ 2 * i + 1; omega) (by show 2 * i + 1 ≤ 10000; omega), by show i + 1 ≤ N; omega, by show i + 1 ≤ 150; omega, h.m, h.j, h.bf⟩ rfl (fun q => by cases q); refine ss_sub hX (T' := lkT 1 N cap ⟨i, ⟨W, st, kd, wd, vl, ch, stb, kdb, wdb, vlb, chb, f, n, c0, some ⟨ep, nx, sn, fl, tm, ii, hd, l⟩, c2, c3, p0, q0, p1, q1, p2, q2, p3, q3, d0, d1, d2, d3⟩, now, bm, mm⟩) (H' := llH N o R ⟨i, ⟨W, st, kd, wd, vl, ch, stb, kdb, wdb, vlb, chb, f, n, c0, some ⟨ep, nx, sn, fl, tm, ii, hd, l⟩, c2, c3, p0, q0, p1, q1, p2, q2, p3, q3, d0, d1, d2, d3⟩, now, bm, mm⟩) [0, 1, 2, 3, 4, 5, 6, 7, 8, 9, 10, 11, 12, 13, 14, 15, 16, 17, 18, 19, 20] rfl rfl rfl rfl ?tt ?hh ?ot ?ok (ss_sw hX (sw_ss (hXTl pp) (cs := []) h1)); (case tt => (exact clhA)); (case hh => (exact clhA)); (case ot => (exact clkA)); (case ok => (exact clkA)))
set_option maxHeartbeats 4000000 in
theorem lg2 (h : LInv R N 0 x) (hin : x.i < N) (hi : x.i < 150) (ha : a3 (o x.i).1 = 2) (hb : bkB (o x.i).1 (o x.i).2 (hdO x.z.c0) (hdO x.z.c1) = false) (hc : x.z.c2 = none)
    (J : ∀ x', LInv R N 1 x' → x'.i = x.i → x'.z.c2 ≠ none → ∃ p, LK p 2 R N cap o x' ρ w I) : ∃ p, LG p R N cap o x ρ w I := by
  have F := h.facts hin hi
  obtain ⟨i, ⟨W, st, kd, wd, vl, ch, stb, kdb, wdb, vlb, chb, f, n, c0, c1, c2, c3, p0, q0, p1, q1, p2, q2, p3, q3, d0, d1, d2, d3⟩, now, bm, mm⟩ := x
  dsimp only at hin hi ha hb hc F
  subst hc

  have b := h.b
  obtain ⟨hin1, hi1, ewi, r1, r2, hl, hl16, w0, w1, s0, s1, n0, n1⟩ := F
  have n2 : n < 1000000 := by omega
  have hcm := a3_cases (o i).2
  refine ⟨⟨f, c0, c1, false, 2, true, 0, w00, r00⟩, ?_⟩
  have hX := hXTl ⟨f, c0, c1, false, 2, true, 0, w00, r00⟩
  dsimp only [LG, llT, llH, wdH]
  refine sxb hX [.r 11] [] 4000 rfl (by first | exact trivial | simp [conjP]) ?_
  refine sxb hX [.r 11] [.T, .T] 4000 rfl (by simp [conjP, hin, hin1, hi1, hb]) ?_
  simp only [Int.toNat_natCast, ha]
  refine sxb hX [.r 17] [] 4000 rfl (by (simp [-List.getD_eq_getElem?_getD, -List.length_eq_zero_iff, conjP])) ?_
  refine sxb hX [.r 17] [.F] 4000 rfl (by (simp [-List.getD_eq_getElem?_getD, -List.length_eq_zero_iff, conjP, hin, hin1, r1, r2, hl, w0, w1, rdP, Int.toNat_natCast])) ?_
  refine sxb hX [.r 17] [.F] 4000 rfl (by (simp [-List.getD_eq_getElem?_getD, -List.length_eq_zero_iff, conjP, addOP])) ?_
  (refine ss_raw hX 10 3 rfl rfl fun v => ?_; obtain ⟨pp, h1⟩ := J ⟨i, ⟨W, st, kd, wd, vl, ch, stb, kdb, wdb, vlb, chb, f, n, c0, c1, some ⟨epW (W.getD 7 0), 1, 0, 0, 0, none⟩, c3, p0, q0, p1, q1, p2, v, p3, q3, d0, d1, d2, d3⟩, now, bm, mm⟩ ⟨BInv.nx b b.hl b.hw (b.o0) (b.o1) (rok_new r1) (b.o3) (hi := by show 2 * i + 0 + 1 ≤ 10000; omega), by show i + 1 ≤ N; omega, by show i + 1 ≤ 150; omega, h.m, h.j, h.bf⟩ rfl (fun q => by cases q); refine ss_sub hX (T' := lkT 2 N cap ⟨i, ⟨W, st, kd, wd, vl, ch, stb, kdb, wdb, vlb, chb, f, n, c0, c1, some ⟨epW (W.getD 7 0), 1, 0, 0, 0, none⟩, c3, p0, q0, p1, q1, p2, v, p3, q3, d0, d1, d2, d3⟩, now, bm, mm⟩) (H' := llH N o R ⟨i, ⟨W, st, kd, wd, vl, ch, stb, kdb, wdb, vlb, chb, f, n, c0, c1, some ⟨epW (W.getD 7 0), 1, 0, 0, 0, none⟩, c3, p0, q0, p1, q1, p2, v, p3, q3, d0, d1, d2, d3⟩, now, bm, mm⟩) [0, 1, 2, 3, 4, 5, 6, 7, 8, 9, 10, 11, 12, 13, 14, 15, 21, 61, 18, 19, 20] rfl rfl rfl rfl ?tt ?hh ?ot ?ok (ss_sw hX (sw_ss (hXTl pp) (cs := []) h1)); (case tt => (exact clhA)); (case hh => (exact clhA)); (case ot => (exact clkA)); (case ok => (exact clkA)))
set_option maxHeartbeats 4000000 in
theorem lo2 (h : LInv R N 0 x) (hin : x.i < N) (hi : x.i < 150) (ha : a3 (o x.i).1 = 2) (hb : bkB (o x.i).1 (o x.i).2 (hdO x.z.c0) (hdO x.z.c1) = false) {ep nx sn fl tm : Int} {o' : Option (List Int)} (hc : x.z.c2 = some ⟨ep, nx, sn, fl, tm, o'⟩)
    (J : ∀ x', LInv R N 1 x' → x'.i = x.i → x'.z.c2 ≠ none → ∃ p, LK p 2 R N cap o x' ρ w I) : ∃ p, LG p R N cap o x ρ w I := by
  have F := h.facts hin hi
  obtain ⟨i, ⟨W, st, kd, wd, vl, ch, stb, kdb, wdb, vlb, chb, f, n, c0, c1, c2, c3, p0, q0, p1, q1, p2, q2, p3, q3, d0, d1, d2, d3⟩, now, bm, mm⟩ := x
  dsimp only at hin hi ha hb hc F
  subst hc
  have b := h.b
  obtain ⟨hin1, hi1, ewi, r1, r2, hl, hl16, w0, w1, s0, s1, n0, n1⟩ := F
  refine ⟨⟨f, c0, c1, false, 2, false, 0, w00, r00⟩, ?_⟩
  have hX := hXTl ⟨f, c0, c1, false, 2, false, 0, w00, r00⟩
  dsimp only [LG, llT, llH, wdH]
  refine sxb hX [.r 11] [] 4000 rfl (by first | exact trivial | simp [conjP]) ?_
  refine sxb hX [.r 11] [.T, .T] 4000 rfl (by simp [conjP, hin, hin1, hi1, hb]) ?_
  simp only [Int.toNat_natCast, ha]
  refine sxb hX [.r 17] [] 4000 rfl (by (simp [-List.getD_eq_getElem?_getD, -List.length_eq_zero_iff, conjP])) ?_
  refine sxb hX [.r 17] [.F] 4000 rfl (by (simp [-List.getD_eq_getElem?_getD, -List.length_eq_zero_iff, conjP, getH, HE.so, hin, hin1, rdP, rdE])) ?_
  refine sxb hX [.r 17] [.F] 4000 rfl (by (simp [-List.getD_eq_getElem?_getD, -List.length_eq_zero_iff, conjP, addOP])) ?_
  (obtain ⟨pp, h1⟩ := J ⟨i, ⟨W, st, kd, wd, vl, ch, stb, kdb, wdb, vlb, chb, f, n, c0, c1, some ⟨ep, nx, sn, fl, tm, o'⟩, c3, p0, q0, p1, q1, p2, q2, p3, q3, d0, d1, d2, d3⟩, now, bm, mm⟩ ⟨b.mono (by show 2 * i + 0 ≤ 2 * i + 1; omega) (by show 2 * i + 1 ≤ 10000; omega), by show i + 1 ≤ N; omega, by show i + 1 ≤ 150; omega, h.m, h.j, h.bf⟩ rfl (fun q => by cases q); refine ss_sub hX (T' := lkT 2 N cap ⟨i, ⟨W, st, kd, wd, vl, ch, stb, kdb, wdb, vlb, chb, f, n, c0, c1, some ⟨ep, nx, sn, fl, tm, o'⟩, c3, p0, q0, p1, q1, p2, q2, p3, q3, d0, d1, d2, d3⟩, now, bm, mm⟩) (H' := llH N o R ⟨i, ⟨W, st, kd, wd, vl, ch, stb, kdb, wdb, vlb, chb, f, n, c0, c1, some ⟨ep, nx, sn, fl, tm, o'⟩, c3, p0, q0, p1, q1, p2, q2, p3, q3, d0, d1, d2, d3⟩, now, bm, mm⟩) [0, 1, 2, 3, 4, 5, 6, 7, 8, 9, 10, 11, 12, 13, 14, 15, 16, 17, 18, 19, 20] rfl rfl rfl rfl ?tt ?hh ?ot ?ok (ss_sw hX (sw_ss (hXTl pp) (cs := []) h1)); (case tt => (exact clhA)); (case hh => (exact clhA)); (case ot => (exact clkA)); (case ok => (exact clkA)))
set_option maxHeartbeats 4000000 in
theorem lg3 (h : LInv R N 0 x) (hin : x.i < N) (hi : x.i < 150) (ha : a3 (o x.i).1 = 3) (hb : bkB (o x.i).1 (o x.i).2 (hdO x.z.c0) (hdO x.z.c1) = false) (hc : x.z.c3 = none)
    (J : ∀ x', LInv R N 1 x' → x'.i = x.i → x'.z.c3 ≠ none → ∃ p, LK p 3 R N cap o x' ρ w I) : ∃ p, LG p R N cap o x ρ w I := by
  have F := h.facts hin hi
  obtain ⟨i, ⟨W, st, kd, wd, vl, ch, stb, kdb, wdb, vlb, chb, f, n, c0, c1, c2, c3, p0, q0, p1, q1, p2, q2, p3, q3, d0, d1, d2, d3⟩, now, bm, mm⟩ := x
  dsimp only at hin hi ha hb hc F
  subst hc

  have b := h.b
  obtain ⟨hin1, hi1, ewi, r1, r2, hl, hl16, w0, w1, s0, s1, n0, n1⟩ := F
  have n2 : n < 1000000 := by omega
  have hcm := a3_cases (o i).2
  refine ⟨⟨f, c0, c1, false, 3, true, 0, w00, r00⟩, ?_⟩
  have hX := hXTl ⟨f, c0, c1, false, 3, true, 0, w00, r00⟩
  dsimp only [LG, llT, llH, wdH]
  refine sxb hX [.r 11] [] 4000 rfl (by first | exact trivial | simp [conjP]) ?_
  refine sxb hX [.r 11] [.T, .T] 4000 rfl (by simp [conjP, hin, hin1, hi1, hb]) ?_
  simp only [Int.toNat_natCast, ha]
  refine sxb hX [.r 17] [] 4000 rfl (by (simp [-List.getD_eq_getElem?_getD, -List.length_eq_zero_iff, conjP])) ?_
  refine sxb hX [.r 17] [.F] 4000 rfl (by (simp [-List.getD_eq_getElem?_getD, -List.length_eq_zero_iff, conjP, hin, hin1, r1, r2, hl, w0, w1, rdP, Int.toNat_natCast])) ?_
  refine sxb hX [.r 17] [.F] 4000 rfl (by (simp [-List.getD_eq_getElem?_getD, -List.length_eq_zero_iff, conjP, addOP])) ?_
  (refine ss_raw hX 11 3 rfl rfl fun v => ?_; obtain ⟨pp, h1⟩ := J ⟨i, ⟨W, st, kd, wd, vl, ch, stb, kdb, wdb, vlb, chb, f, n, c0, c1, c2, some ⟨epW (W.getD 7 0), 1, 0, 0, 0, none⟩, p0, q0, p1, q1, p2, q2, p3, v, d0, d1, d2, d3⟩, now, bm, mm⟩ ⟨BInv.nx b b.hl b.hw (b.o0) (b.o1) (b.o2) (rok_new r1) (hi := by show 2 * i + 0 + 1 ≤ 10000; omega), by show i + 1 ≤ N; omega, by show i + 1 ≤ 150; omega, h.m, h.j, h.bf⟩ rfl (fun q => by cases q); refine ss_sub hX (T' := lkT 3 N cap ⟨i, ⟨W, st, kd, wd, vl, ch, stb, kdb, wdb, vlb, chb, f, n, c0, c1, c2, some ⟨epW (W.getD 7 0), 1, 0, 0, 0, none⟩, p0, q0, p1, q1, p2, q2, p3, v, d0, d1, d2, d3⟩, now, bm, mm⟩) (H' := llH N o R ⟨i, ⟨W, st, kd, wd, vl, ch, stb, kdb, wdb, vlb, chb, f, n, c0, c1, c2, some ⟨epW (W.getD 7 0), 1, 0, 0, 0, none⟩, p0, q0, p1, q1, p2, q2, p3, v, d0, d1, d2, d3⟩, now, bm, mm⟩) [0, 1, 2, 3, 4, 5, 6, 7, 8, 9, 10, 11, 12, 13, 14, 15, 16, 17, 21, 61, 20] rfl rfl rfl rfl ?tt ?hh ?ot ?ok (ss_sw hX (sw_ss (hXTl pp) (cs := []) h1)); (case tt => (exact clhA)); (case hh => (exact clhA)); (case ot => (exact clkA)); (case ok => (exact clkA)))
set_option maxHeartbeats 4000000 in
theorem lo3 (h : LInv R N 0 x) (hin : x.i < N) (hi : x.i < 150) (ha : a3 (o x.i).1 = 3) (hb : bkB (o x.i).1 (o x.i).2 (hdO x.z.c0) (hdO x.z.c1) = false) {ep nx sn fl tm : Int} {o' : Option (List Int)} (hc : x.z.c3 = some ⟨ep, nx, sn, fl, tm, o'⟩)
    (J : ∀ x', LInv R N 1 x' → x'.i = x.i → x'.z.c3 ≠ none → ∃ p, LK p 3 R N cap o x' ρ w I) : ∃ p, LG p R N cap o x ρ w I := by
  have F := h.facts hin hi
  obtain ⟨i, ⟨W, st, kd, wd, vl, ch, stb, kdb, wdb, vlb, chb, f, n, c0, c1, c2, c3, p0, q0, p1, q1, p2, q2, p3, q3, d0, d1, d2, d3⟩, now, bm, mm⟩ := x
  dsimp only at hin hi ha hb hc F
  subst hc
  have b := h.b
  obtain ⟨hin1, hi1, ewi, r1, r2, hl, hl16, w0, w1, s0, s1, n0, n1⟩ := F
  refine ⟨⟨f, c0, c1, false, 3, false, 0, w00, r00⟩, ?_⟩
  have hX := hXTl ⟨f, c0, c1, false, 3, false, 0, w00, r00⟩
  dsimp only [LG, llT, llH, wdH]
  refine sxb hX [.r 11] [] 4000 rfl (by first | exact trivial | simp [conjP]) ?_
  refine sxb hX [.r 11] [.T, .T] 4000 rfl (by simp [conjP, hin, hin1, hi1, hb]) ?_
  simp only [Int.toNat_natCast, ha]
  refine sxb hX [.r 17] [] 4000 rfl (by (simp [-List.getD_eq_getElem?_getD, -List.length_eq_zero_iff, conjP])) ?_
  refine sxb hX [.r 17] [.F] 4000 rfl (by (simp [-List.getD_eq_getElem?_getD, -List.length_eq_zero_iff, conjP, getH, HE.so, hin, hin1, rdP, rdE])) ?_
  refine sxb hX [.r 17] [.F] 4000 rfl (by (simp [-List.getD_eq_getElem?_getD, -List.length_eq_zero_iff, conjP, addOP])) ?_
  (obtain ⟨pp, h1⟩ := J ⟨i, ⟨W, st, kd, wd, vl, ch, stb, kdb, wdb, vlb, chb, f, n, c0, c1, c2, some ⟨ep, nx, sn, fl, tm, o'⟩, p0, q0, p1, q1, p2, q2, p3, q3, d0, d1, d2, d3⟩, now, bm, mm⟩ ⟨b.mono (by show 2 * i + 0 ≤ 2 * i + 1; omega) (by show 2 * i + 1 ≤ 10000; omega), by show i + 1 ≤ N; omega, by show i + 1 ≤ 150; omega, h.m, h.j, h.bf⟩ rfl (fun q => by cases q); refine ss_sub hX (T' := lkT 3 N cap ⟨i, ⟨W, st, kd, wd, vl, ch, stb, kdb, wdb, vlb, chb, f, n, c0, c1, c2, some ⟨ep, nx, sn, fl, tm, o'⟩, p0, q0, p1, q1, p2, q2, p3, q3, d0, d1, d2, d3⟩, now, bm, mm⟩) (H' := llH N o R ⟨i, ⟨W, st, kd, wd, vl, ch, stb, kdb, wdb, vlb, chb, f, n, c0, c1, c2, some ⟨ep, nx, sn, fl, tm, o'⟩, p0, q0, p1, q1, p2, q2, p3, q3, d0, d1, d2, d3⟩, now, bm, mm⟩) [0, 1, 2, 3, 4, 5, 6, 7, 8, 9, 10, 11, 12, 13, 14, 15, 16, 17, 18, 19, 20] rfl rfl rfl rfl ?tt ?hh ?ot ?ok (ss_sw hX (sw_ss (hXTl pp) (cs := []) h1)); (case tt => (exact clhA)); (case hh => (exact clhA)); (case ot => (exact clkA)); (case ok => (exact clkA)))
end
end Go.Proofs.YtmghcelohnlceaaGreatDoor
