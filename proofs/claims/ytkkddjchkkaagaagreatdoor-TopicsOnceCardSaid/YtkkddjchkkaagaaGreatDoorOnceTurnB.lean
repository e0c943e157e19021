/- TopicsOnce: client 2 has its turn. -/
import Derived.Test.YtkkddjchkkaagaaGreatDoorOnceBusy
namespace Go.Proofs.YtkkddjchkkaagaaGreatDoor
open Go Go.Hx
set_option maxRecDepth 8000
section
variable {T : Nat} {R : Int} {N cap : Nat} {o : Nat → Int × Int × Bool × Bool} {x : AS} {ρ : Nat → Nat × Nat} {w : World} {I : Act → World → Prop}
set_option maxHeartbeats 4000000 in
theorem tg2f (h : OInv T R N 0 x) (hin : x.i < N) (hi : x.i < 200) (ha : ibits .and .i64 (o x.i).1 3 = 2) (hc : x.z.c2 = none) (hbk : (o x.i).2.2.1 = false)
    (J : ∀ x', OInv T R N 0 x' → x'.i = x.i → x'.z.c2 ≠ none → ∃ p, OK p 2 T R N cap o x' ρ w I) : ∃ p, OG p T R N cap o x ρ w I := by
  have F := h.facts hin hi
  have c0h := h.c0
  have c1h := h.c1
  have c2h := h.c2
  have dh := h.d
  obtain ⟨i, ⟨W, st, kd, wd, vl, ch, c0, c1, c2, p0, p1, p2, k0, k1, k2⟩⟩ := x
  dsimp only at hin hi ha hc hbk F c0h c1h c2h dh
  subst hc
  obtain ⟨hin1, hi1, ewi, t1, t4, r1, r8, hl, s0, s1, hw⟩ := F
  have hr := right_TR t1 t4 r1 r8
  obtain ⟨kq1, kq6⟩ := cRemB 1 6 (o i).2.1 (by decide) (by decide) (by decide) (by decide)
  refine ⟨⟨T, R, 0, 0, false, false, t00, r00⟩, ?_⟩
  have hX := hXTl ⟨T, R, 0, 0, false, false, t00, r00⟩
  dsimp only [OG, onT, onH, tqH]
  refine sxb hX [.r 15] [] 4000 rfl (by (simp [-List.getD_eq_getElem?_getD, -List.length_eq_zero_iff, conjP])) ?_
  refine sxb hX [.r 15] [.T] 4000 rfl (by (simp [-List.getD_eq_getElem?_getD, -List.length_eq_zero_iff, conjP, addOP, hin1])) ?_
  refine sxb hX [.r 15] [.T] 4000 rfl (by (simp [-List.getD_eq_getElem?_getD, -List.length_eq_zero_iff, conjP, hin, hin1, hi1, Int.toNat_natCast])) ?_
  refine sxb hX [.r 15] [.F] 4000 rfl (by (simp [-List.getD_eq_getElem?_getD, -List.length_eq_zero_iff, conjP, addOP, ha, Int.toNat_natCast])) ?_
  (refine sx hX [] 4 rfl (by first | exact trivial | simp [conjP]) ?_; simp only [ha, Int.toNat_natCast]; refine sxb hX [.r 17] [] 4000 rfl (by first | exact trivial | simp [conjP, hbk, t1, t4, r1, r8, clO, crP, rmP]) ?_; refine ss_raw hX 8 2 rfl rfl fun v => ?_; obtain ⟨pp, h1⟩ := J ⟨i, ⟨W, st, kd, wd, vl, ch, c0, c1, some (newT false (o i).2.2.2 (cRem 1 6 (o i).2.1)), p0, p1, v, k0, k1, (cRem 1 6 (o i).2.1)⟩⟩ ⟨h.b, c0h, c1h, new_tc h.b kq1 (by omega), by have := new_low (rm := false) (lg := (o i).2.2.2) h.b dh (a := 2) rfl kq1 (by omega); rw [upd2] at this; exact this, by dsimp only; omega, by dsimp only; omega⟩ rfl (fun q => by cases q); refine ss_sub hX (T' := onK 2 N cap ⟨i, ⟨W, st, kd, wd, vl, ch, c0, c1, some (newT false (o i).2.2.2 (cRem 1 6 (o i).2.1)), p0, p1, v, k0, k1, (cRem 1 6 (o i).2.1)⟩⟩) (H' := onH N o T R ⟨i, ⟨W, st, kd, wd, vl, ch, c0, c1, some (newT false (o i).2.2.2 (cRem 1 6 (o i).2.1)), p0, p1, v, k0, k1, (cRem 1 6 (o i).2.1)⟩⟩) [0, 1, 2, 3, 4, 5, 6, 7, 8, 9, 10, 11, 12, 16, 17] rfl rfl rfl rfl ?tt ?hh ?ot ?ok (ss_sw hX (sw_ss (hXTl pp) (cs := []) h1)); (case tt => (exact clhT)); (case hh => (try simp only); (exact clhT)); (case ot => (exact clkT)); (case ok => (exact clkT)))
set_option maxHeartbeats 4000000 in
theorem tg2t (h : OInv T R N 0 x) (hin : x.i < N) (hi : x.i < 200) (ha : ibits .and .i64 (o x.i).1 3 = 2) (hc : x.z.c2 = none) (hbk : (o x.i).2.2.1 = true)
    (J : ∀ x', OInv T R N 0 x' → x'.i = x.i → x'.z.c2 ≠ none → ∃ p, OK p 2 T R N cap o x' ρ w I) : ∃ p, OG p T R N cap o x ρ w I := by
  have F := h.facts hin hi
  have c0h := h.c0
  have c1h := h.c1
  have c2h := h.c2
  have dh := h.d
  obtain ⟨i, ⟨W, st, kd, wd, vl, ch, c0, c1, c2, p0, p1, p2, k0, k1, k2⟩⟩ := x
  dsimp only at hin hi ha hc hbk F c0h c1h c2h dh
  subst hc
  obtain ⟨hin1, hi1, ewi, t1, t4, r1, r8, hl, s0, s1, hw⟩ := F
  have hr := right_TR t1 t4 r1 r8
  obtain ⟨kq1, kq6⟩ := cRemB 1 6 (o i).2.1 (by decide) (by decide) (by decide) (by decide)
  refine ⟨⟨T, R, 0, 0, false, true, t00, r00⟩, ?_⟩
  have hX := hXTl ⟨T, R, 0, 0, false, true, t00, r00⟩
  dsimp only [OG, onT, onH, tqH]
  refine sxb hX [.r 15] [] 4000 rfl (by (simp [-List.getD_eq_getElem?_getD, -List.length_eq_zero_iff, conjP])) ?_
  refine sxb hX [.r 15] [.T] 4000 rfl (by (simp [-List.getD_eq_getElem?_getD, -List.length_eq_zero_iff, conjP, addOP, hin1])) ?_
  refine sxb hX [.r 15] [.T] 4000 rfl (by (simp [-List.getD_eq_getElem?_getD, -List.length_eq_zero_iff, conjP, hin, hin1, hi1, Int.toNat_natCast])) ?_
  refine sxb hX [.r 15] [.F] 4000 rfl (by (simp [-List.getD_eq_getElem?_getD, -List.length_eq_zero_iff, conjP, addOP, ha, Int.toNat_natCast])) ?_
  (refine sx hX [] 4 rfl (by first | exact trivial | simp [conjP]) ?_; simp only [ha, Int.toNat_natCast]; refine sxb hX [.r 17] [] 4000 rfl (by first | exact trivial | simp [conjP, hbk, t1, t4, r1, r8, clO, crP, rmP]) ?_; refine ss_raw hX 8 2 rfl rfl fun v => ?_; obtain ⟨pp, h1⟩ := J ⟨i, ⟨W, st, kd, wd, vl, ch, c0, c1, some (newT true (o i).2.2.2 (cRem 1 6 (o i).2.1)), p0, p1, v, k0, k1, (cRem 1 6 (o i).2.1)⟩⟩ ⟨h.b, c0h, c1h, new_tc h.b kq1 (by omega), by have := new_low (rm := true) (lg := (o i).2.2.2) h.b dh (a := 2) rfl kq1 (by omega); rw [upd2] at this; exact this, by dsimp only; omega, by dsimp only; omega⟩ rfl (fun q => by cases q); refine ss_sub hX (T' := onK 2 N cap ⟨i, ⟨W, st, kd, wd, vl, ch, c0, c1, some (newT true (o i).2.2.2 (cRem 1 6 (o i).2.1)), p0, p1, v, k0, k1, (cRem 1 6 (o i).2.1)⟩⟩) (H' := onH N o T R ⟨i, ⟨W, st, kd, wd, vl, ch, c0, c1, some (newT true (o i).2.2.2 (cRem 1 6 (o i).2.1)), p0, p1, v, k0, k1, (cRem 1 6 (o i).2.1)⟩⟩) [0, 1, 2, 3, 4, 5, 6, 7, 8, 9, 10, 11, 12, 16, 17] rfl rfl rfl rfl ?tt ?hh ?ot ?ok (ss_sw hX (sw_ss (hXTl pp) (cs := []) h1)); (case tt => (exact clhT)); (case hh => (try simp only [if_true]); (exact clhT)); (case ot => (exact clkT)); (case ok => (exact clkT)))
set_option maxHeartbeats 4000000 in
theorem to2c (h : OInv T R N 0 x) (hin : x.i < N) (hi : x.i < 200) (ha : ibits .and .i64 (o x.i).1 3 = 2) {lg : Bool} {key : Int} {ph : Nat} {seq : Int} {j : Nat} {fd : Int} {hd : Bool} {tm er pl sn fl bk ep tp : Int} {tl : Bool} (hc : x.z.c2 = some ⟨false, lg, key, ph, seq, j, fd, hd, tm, er, pl, sn, fl, bk, ep, tp, tl⟩)
    (J : ∀ x', OInv T R N 0 x' → x'.i = x.i → x'.z.c2 ≠ none → ∃ p, OK p 2 T R N cap o x' ρ w I) : ∃ p, OG p T R N cap o x ρ w I := by
  have F := h.facts hin hi
  have c0h := h.c0
  have c1h := h.c1
  have c2h := h.c2
  have dh := h.d
  obtain ⟨i, ⟨W, st, kd, wd, vl, ch, c0, c1, c2, p0, p1, p2, k0, k1, k2⟩⟩ := x
  dsimp only at hin hi ha hc F c0h c1h c2h dh
  subst hc
  obtain ⟨hin1, hi1, ewi, t1, t4, r1, r8, hl, s0, s1, hw⟩ := F
  have hr := right_TR t1 t4 r1 r8
  refine ⟨⟨T, R, 0, 0, false, false, t00, r00⟩, ?_⟩
  refine ss_sw (hXTl ⟨T, R, 0, 0, false, false, t00, r00⟩) (sw_ss hXTm (cs := []) ?_)
  have hX := hXTm
  dsimp only [onT, onH, tqH]
  refine sxb hX [.r 15] [] 4000 rfl (by (simp [-List.getD_eq_getElem?_getD, -List.length_eq_zero_iff, conjP])) ?_
  refine sxb hX [.r 15] [.T] 4000 rfl (by (simp [-List.getD_eq_getElem?_getD, -List.length_eq_zero_iff, conjP, addOP, hin1])) ?_
  refine sxb hX [.r 15] [.T] 4000 rfl (by (simp [-List.getD_eq_getElem?_getD, -List.length_eq_zero_iff, conjP, hin, hin1, hi1, Int.toNat_natCast])) ?_
  refine sxb hX [.r 15] [.F] 4000 rfl (by (simp [-List.getD_eq_getElem?_getD, -List.length_eq_zero_iff, conjP, addOP, ha, Int.toNat_natCast])) ?_
  (refine sx hX [] 4 rfl (by first | exact trivial | simp [conjP]) ?_; simp only [ha, Int.toNat_natCast]; refine sxb hX [.r 17] [] 4000 rfl (by first | exact trivial | simp [conjP, addOP]) ?_; obtain ⟨pp, h1⟩ := J ⟨i, ⟨W, st, kd, wd, vl, ch, c0, c1, some ⟨false, lg, key, ph, seq, j, fd, hd, tm, er, pl, sn, fl, bk, ep, tp, tl⟩, p0, p1, p2, k0, k1, k2⟩⟩ ⟨h.b, c0h, c1h, c2h, dh, by dsimp only; omega, by dsimp only; omega⟩ rfl (fun q => by cases q); refine ss_sub hX (T' := onK 2 N cap ⟨i, ⟨W, st, kd, wd, vl, ch, c0, c1, some ⟨false, lg, key, ph, seq, j, fd, hd, tm, er, pl, sn, fl, bk, ep, tp, tl⟩, p0, p1, p2, k0, k1, k2⟩⟩) (H' := onH N o T R ⟨i, ⟨W, st, kd, wd, vl, ch, c0, c1, some ⟨false, lg, key, ph, seq, j, fd, hd, tm, er, pl, sn, fl, bk, ep, tp, tl⟩, p0, p1, p2, k0, k1, k2⟩⟩) [0, 1, 2, 3, 4, 5, 6, 7, 8, 9, 10, 11, 12, 13, 14] rfl rfl rfl rfl ?tt ?hh ?ot ?ok (ss_sw hX (sw_ss (hXTl pp) (cs := []) h1)); (case tt => (exact clhT)); (case hh => (try simp only [if_true, Int.toNat_natCast, List.length_set]); (exact clhT)); (case ot => (exact clkT)); (case ok => (exact clkT)))
set_option maxHeartbeats 4000000 in
theorem tt2cn (h : OInv T R N 0 x) (hin : x.i < N) (hi : x.i < 200) {lg : Bool} {key : Int} {ph : Nat} {seq : Int} {j : Nat} {fd : Int} {hd : Bool} {tm er pl sn fl bk ep tp : Int} {tl : Bool} (hc : x.z.c2 = some ⟨false, lg, key, ph, seq, j, fd, hd, tm, er, pl, sn, fl, bk, ep, tp, tl⟩) {r : TR} (hst : tStep T R (sfT T R key) ⟨false, lg, key, ph, seq, j, fd, hd, tm, er, pl, sn, fl, bk, ep, tp, tl⟩ x.z.W x.z.st = r) (e0 : ¬ r.s.ph = 0)
    (J : OJ T R N cap o x ρ w I) : ∃ p, OK p 2 T R N cap o x ρ w I := by
  have F := h.facts hin hi
  have c0h := h.c0
  have c1h := h.c1
  have c2h := h.c2
  have dh := h.d
  obtain ⟨i, ⟨W, st, kd, wd, vl, ch, c0, c1, c2, p0, p1, p2, k0, k1, k2⟩⟩ := x
  dsimp only at hin hi hc hst F c0h c1h c2h dh
  subst hc
  obtain ⟨hin1, hi1, ewi, t1, t4, r1, r8, hl, s0, s1, hw⟩ := F
  have hr := right_TR t1 t4 r1 r8
  have hb := h.b
  dsimp only at hb
  have hP : TPre T R (sfT T R key) ⟨false, lg, key, ph, seq, j, fd, hd, tm, er, pl, sn, fl, bk, ep, tp, tl⟩ W st := pre_of hb c2h
  have kk := step_k hb c2h (by omega)
  have dd := dh.step (a := 2) (R := R) (st := st) rfl
  rw [upd2] at dd
  dsimp only at dd
  rw [hst] at kk dd
  obtain ⟨⟨rm', lg', key', ph', seq', j', fd', hd', tm', er', pl', sn', fl', bk', ep', tp', tl'⟩, W', kd', wd', vl', ch'⟩ := r
  obtain rfl : rm' = false := kk.rm
  dsimp only at e0 dd
  rw [if_neg e0] at dd
  refine ⟨⟨T, R, sfT T R key, 0, false, false, ⟨false, lg, key, ph, seq, j, fd, hd, tm, er, pl, sn, fl, bk, ep, tp, tl⟩, ⟨⟨false, lg', key', ph', seq', j', fd', hd', tm', er', pl', sn', fl', bk', ep', tp', tl'⟩, W', kd', wd', vl', ch'⟩⟩, ?_⟩
  have hX := hXTl ⟨T, R, sfT T R key, 0, false, false, ⟨false, lg, key, ph, seq, j, fd, hd, tm, er, pl, sn, fl, bk, ep, tp, tl⟩, ⟨⟨false, lg', key', ph', seq', j', fd', hd', tm', er', pl', sn', fl', bk', ep', tp', tl'⟩, W', kd', wd', vl', ch'⟩⟩
  dsimp only [OK, onK, onH, tqH]
  refine sxb hX [.r 21] [] 4000 rfl (by (simp [-List.getD_eq_getElem?_getD, -List.length_eq_zero_iff, conjP, hP, hst, ruC, cond_false])) ?_
  refine sxb hX [.r 21] [.F] 4000 rfl (by (simp [-List.getD_eq_getElem?_getD, -List.length_eq_zero_iff, conjP, e0])) ?_
  (obtain ⟨pp, h1⟩ := J ⟨i, ⟨W', st + 1, kd', wd', vl', ch', c0, c1, some ⟨false, lg', key', ph', seq', j', fd', hd', tm', er', pl', sn', fl', bk', ep', tp', tl'⟩, p0, p1, p2, k0, k1, k2⟩⟩ ⟨kk.b.mono (by dsimp only; omega) (by dsimp only; omega), okO_mono (by dsimp only; omega) c0h, okO_mono (by dsimp only; omega) c1h, (kk.c e0).mono (by dsimp only; omega), dd, by dsimp only; omega, by dsimp only; omega⟩ rfl; refine ss_sub hX (T' := onT N cap ⟨i, ⟨W', st + 1, kd', wd', vl', ch', c0, c1, some ⟨false, lg', key', ph', seq', j', fd', hd', tm', er', pl', sn', fl', bk', ep', tp', tl'⟩, p0, p1, p2, k0, k1, k2⟩⟩) (H' := onH N o T R ⟨i, ⟨W', st + 1, kd', wd', vl', ch', c0, c1, some ⟨false, lg', key', ph', seq', j', fd', hd', tm', er', pl', sn', fl', bk', ep', tp', tl'⟩, p0, p1, p2, k0, k1, k2⟩⟩) [0, 1, 2, 3, 4, 5, 6, 7, 8, 9, 10, 11, 12, 13, 14] rfl rfl rfl rfl ?tt ?hh ?ot ?ok (ss_sw hX (sw_ss (hXTl pp) (cs := []) h1)); (case tt => (exact clhT)); (case hh => (try simp only); (exact clhT)); (case ot => (exact clkT)); (case ok => (exact clkT)))
set_option maxHeartbeats 4000000 in
theorem tt2cd (h : OInv T R N 0 x) (hin : x.i < N) (hi : x.i < 200) {lg : Bool} {key : Int} {ph : Nat} {seq : Int} {j : Nat} {fd : Int} {hd : Bool} {tm er pl sn fl bk ep tp : Int} {tl : Bool} (hc : x.z.c2 = some ⟨false, lg, key, ph, seq, j, fd, hd, tm, er, pl, sn, fl, bk, ep, tp, tl⟩) {r : TR} (hst : tStep T R (sfT T R key) ⟨false, lg, key, ph, seq, j, fd, hd, tm, er, pl, sn, fl, bk, ep, tp, tl⟩ x.z.W x.z.st = r) (e0 : r.s.ph = 0)
    (J : OJ T R N cap o x ρ w I) : ∃ p, OK p 2 T R N cap o x ρ w I := by
  have F := h.facts hin hi
  have c0h := h.c0
  have c1h := h.c1
  have c2h := h.c2
  have dh := h.d
  obtain ⟨i, ⟨W, st, kd, wd, vl, ch, c0, c1, c2, p0, p1, p2, k0, k1, k2⟩⟩ := x
  dsimp only at hin hi hc hst F c0h c1h c2h dh
  subst hc
  obtain ⟨hin1, hi1, ewi, t1, t4, r1, r8, hl, s0, s1, hw⟩ := F
  have hr := right_TR t1 t4 r1 r8
  have hb := h.b
  dsimp only at hb
  have hP : TPre T R (sfT T R key) ⟨false, lg, key, ph, seq, j, fd, hd, tm, er, pl, sn, fl, bk, ep, tp, tl⟩ W st := pre_of hb c2h
  have kk := step_k hb c2h (by omega)
  have dd := dh.step (a := 2) (R := R) (st := st) rfl
  rw [upd2] at dd
  dsimp only at dd
  rw [hst] at kk dd
  obtain ⟨⟨rm', lg', key', ph', seq', j', fd', hd', tm', er', pl', sn', fl', bk', ep', tp', tl'⟩, W', kd', wd', vl', ch'⟩ := r
  obtain rfl : rm' = false := kk.rm
  dsimp only at e0 dd
  subst e0
  rw [if_pos rfl] at dd
  refine ⟨⟨T, R, sfT T R key, 0, false, false, ⟨false, lg, key, ph, seq, j, fd, hd, tm, er, pl, sn, fl, bk, ep, tp, tl⟩, ⟨⟨false, lg', key', 0, seq', j', fd', hd', tm', er', pl', sn', fl', bk', ep', tp', tl'⟩, W', kd', wd', vl', ch'⟩⟩, ?_⟩
  have hX := hXTl ⟨T, R, sfT T R key, 0, false, false, ⟨false, lg, key, ph, seq, j, fd, hd, tm, er, pl, sn, fl, bk, ep, tp, tl⟩, ⟨⟨false, lg', key', 0, seq', j', fd', hd', tm', er', pl', sn', fl', bk', ep', tp', tl'⟩, W', kd', wd', vl', ch'⟩⟩
  dsimp only [OK, onK, onH, tqH]
  refine sxb hX [.r 21] [] 4000 rfl (by (simp [-List.getD_eq_getElem?_getD, -List.length_eq_zero_iff, conjP, hP, hst, ruC, cond_false])) ?_
  refine sxb hX [.r 21] [.T] 4000 rfl (by (simp [-List.getD_eq_getElem?_getD, -List.length_eq_zero_iff, conjP])) ?_
  (obtain ⟨pp, h1⟩ := J ⟨i, ⟨W', st + 1, kd', wd', vl', ch', c0, c1, none, p0, p1, p2, k0, k1, k2⟩⟩ ⟨kk.b.mono (by dsimp only; omega) (by dsimp only; omega), okO_mono (by dsimp only; omega) c0h, okO_mono (by dsimp only; omega) c1h, trivial, dd, by dsimp only; omega, by dsimp only; omega⟩ rfl; refine ss_sub hX (T' := onT N cap ⟨i, ⟨W', st + 1, kd', wd', vl', ch', c0, c1, none, p0, p1, p2, k0, k1, k2⟩⟩) (H' := onH N o T R ⟨i, ⟨W', st + 1, kd', wd', vl', ch', c0, c1, none, p0, p1, p2, k0, k1, k2⟩⟩) [0, 1, 2, 3, 4, 5, 6, 7, 8, 9, 10, 11, 12, 13, 14] rfl rfl rfl rfl ?tt ?hh ?ot ?ok (ss_sw hX (sw_ss (hXTl pp) (cs := []) h1)); (case tt => (exact clhT)); (case hh => (try simp only); (exact clhT)); (case ot => (exact clkT)); (case ok => (exact clkT)))
set_option maxHeartbeats 4000000 in
theorem to2r (h : OInv T R N 0 x) (hin : x.i < N) (hi : x.i < 200) (ha : ibits .and .i64 (o x.i).1 3 = 2) {lg : Bool} {key : Int} {ph : Nat} {seq : Int} {j : Nat} {fd : Int} {hd : Bool} {tm er pl sn fl bk ep tp : Int} {tl : Bool} (hc : x.z.c2 = some ⟨true, lg, key, ph, seq, j, fd, hd, tm, er, pl, sn, fl, bk, ep, tp, tl⟩)
    (J : ∀ x', OInv T R N 0 x' → x'.i = x.i → x'.z.c2 ≠ none → ∃ p, OK p 2 T R N cap o x' ρ w I) : ∃ p, OG p T R N cap o x ρ w I := by
  have F := h.facts hin hi
  have c0h := h.c0
  have c1h := h.c1
  have c2h := h.c2
  have dh := h.d
  obtain ⟨i, ⟨W, st, kd, wd, vl, ch, c0, c1, c2, p0, p1, p2, k0, k1, k2⟩⟩ := x
  dsimp only at hin hi ha hc F c0h c1h c2h dh
  subst hc
  obtain ⟨hin1, hi1, ewi, t1, t4, r1, r8, hl, s0, s1, hw⟩ := F
  have hr := right_TR t1 t4 r1 r8
  refine ⟨⟨T, R, 0, 0, false, false, t00, r00⟩, ?_⟩
  refine ss_sw (hXTl ⟨T, R, 0, 0, false, false, t00, r00⟩) (sw_ss hXTm (cs := []) ?_)
  have hX := hXTm
  dsimp only [onT, onH, tqH]
  refine sxb hX [.r 15] [] 4000 rfl (by (simp [-List.getD_eq_getElem?_getD, -List.length_eq_zero_iff, conjP])) ?_
  refine sxb hX [.r 15] [.T] 4000 rfl (by (simp [-List.getD_eq_getElem?_getD, -List.length_eq_zero_iff, conjP, addOP, hin1])) ?_
  refine sxb hX [.r 15] [.T] 4000 rfl (by (simp [-List.getD_eq_getElem?_getD, -List.length_eq_zero_iff, conjP, hin, hin1, hi1, Int.toNat_natCast])) ?_
  refine sxb hX [.r 15] [.F] 4000 rfl (by (simp [-List.getD_eq_getElem?_getD, -List.length_eq_zero_iff, conjP, addOP, ha, Int.toNat_natCast])) ?_
  (refine sx hX [] 4 rfl (by first | exact trivial | simp [conjP]) ?_; simp only [ha, Int.toNat_natCast]; refine sxb hX [.r 17] [] 4000 rfl (by first | exact trivial | simp [conjP, addOP]) ?_; obtain ⟨pp, h1⟩ := J ⟨i, ⟨W, st, kd, wd, vl, ch, c0, c1, some ⟨true, lg, key, ph, seq, j, fd, hd, tm, er, pl, sn, fl, bk, ep, tp, tl⟩, p0, p1, p2, k0, k1, k2⟩⟩ ⟨h.b, c0h, c1h, c2h, dh, by dsimp only; omega, by dsimp only; omega⟩ rfl (fun q => by cases q); refine ss_sub hX (T' := onK 2 N cap ⟨i, ⟨W, st, kd, wd, vl, ch, c0, c1, some ⟨true, lg, key, ph, seq, j, fd, hd, tm, er, pl, sn, fl, bk, ep, tp, tl⟩, p0, p1, p2, k0, k1, k2⟩⟩) (H' := onH N o T R ⟨i, ⟨W, st, kd, wd, vl, ch, c0, c1, some ⟨true, lg, key, ph, seq, j, fd, hd, tm, er, pl, sn, fl, bk, ep, tp, tl⟩, p0, p1, p2, k0, k1, k2⟩⟩) [0, 1, 2, 3, 4, 5, 6, 7, 8, 9, 10, 11, 12, 13, 14] rfl rfl rfl rfl ?tt ?hh ?ot ?ok (ss_sw hX (sw_ss (hXTl pp) (cs := []) h1)); (case tt => (exact clhT)); (case hh => (try simp only [if_true, Int.toNat_natCast, List.length_set]); (exact clhT)); (case ot => (exact clkT)); (case ok => (exact clkT)))
set_option maxHeartbeats 4000000 in
theorem tt2rn (h : OInv T R N 0 x) (hin : x.i < N) (hi : x.i < 200) {lg : Bool} {key : Int} {ph : Nat} {seq : Int} {j : Nat} {fd : Int} {hd : Bool} {tm er pl sn fl bk ep tp : Int} {tl : Bool} (hc : x.z.c2 = some ⟨true, lg, key, ph, seq, j, fd, hd, tm, er, pl, sn, fl, bk, ep, tp, tl⟩) {r : TR} (hst : tStep T R (sfT T R key) ⟨true, lg, key, ph, seq, j, fd, hd, tm, er, pl, sn, fl, bk, ep, tp, tl⟩ x.z.W x.z.st = r) (e0 : ¬ r.s.ph = 0)
    (J : OJ T R N cap o x ρ w I) : ∃ p, OK p 2 T R N cap o x ρ w I := by
  have F := h.facts hin hi
  have c0h := h.c0
  have c1h := h.c1
  have c2h := h.c2
  have dh := h.d
  obtain ⟨i, ⟨W, st, kd, wd, vl, ch, c0, c1, c2, p0, p1, p2, k0, k1, k2⟩⟩ := x
  dsimp only at hin hi hc hst F c0h c1h c2h dh
  subst hc
  obtain ⟨hin1, hi1, ewi, t1, t4, r1, r8, hl, s0, s1, hw⟩ := F
  have hr := right_TR t1 t4 r1 r8
  have hb := h.b
  dsimp only at hb
  have hP : TPre T R (sfT T R key) ⟨true, lg, key, ph, seq, j, fd, hd, tm, er, pl, sn, fl, bk, ep, tp, tl⟩ W st := pre_of hb c2h
  have kk := step_k hb c2h (by omega)
  have dd := dh.step (a := 2) (R := R) (st := st) rfl
  rw [upd2] at dd
  dsimp only at dd
  rw [hst] at kk dd
  obtain ⟨⟨rm', lg', key', ph', seq', j', fd', hd', tm', er', pl', sn', fl', bk', ep', tp', tl'⟩, W', kd', wd', vl', ch'⟩ := r
  obtain rfl : rm' = true := kk.rm
  dsimp only at e0 dd
  rw [if_neg e0] at dd
  refine ⟨⟨T, R, sfT T R key, 0, false, false, ⟨true, lg, key, ph, seq, j, fd, hd, tm, er, pl, sn, fl, bk, ep, tp, tl⟩, ⟨⟨true, lg', key', ph', seq', j', fd', hd', tm', er', pl', sn', fl', bk', ep', tp', tl'⟩, W', kd', wd', vl', ch'⟩⟩, ?_⟩
  have hX := hXTl ⟨T, R, sfT T R key, 0, false, false, ⟨true, lg, key, ph, seq, j, fd, hd, tm, er, pl, sn, fl, bk, ep, tp, tl⟩, ⟨⟨true, lg', key', ph', seq', j', fd', hd', tm', er', pl', sn', fl', bk', ep', tp', tl'⟩, W', kd', wd', vl', ch'⟩⟩
  dsimp only [OK, onK, onH, tqH]
  refine sxb hX [.r 21] [] 4000 rfl (by (simp [-List.getD_eq_getElem?_getD, -List.length_eq_zero_iff, conjP, hP, hst, ruC, cond_true])) ?_
  refine sxb hX [.r 21] [.F] 4000 rfl (by (simp [-List.getD_eq_getElem?_getD, -List.length_eq_zero_iff, conjP, addOP, e0])) ?_
  (obtain ⟨pp, h1⟩ := J ⟨i, ⟨W', st + 1, kd', wd', vl', ch', c0, c1, some ⟨true, lg', key', ph', seq', j', fd', hd', tm', er', pl', sn', fl', bk', ep', tp', tl'⟩, p0, p1, p2, k0, k1, k2⟩⟩ ⟨kk.b.mono (by dsimp only; omega) (by dsimp only; omega), okO_mono (by dsimp only; omega) c0h, okO_mono (by dsimp only; omega) c1h, (kk.c e0).mono (by dsimp only; omega), dd, by dsimp only; omega, by dsimp only; omega⟩ rfl; refine ss_sub hX (T' := onT N cap ⟨i, ⟨W', st + 1, kd', wd', vl', ch', c0, c1, some ⟨true, lg', key', ph', seq', j', fd', hd', tm', er', pl', sn', fl', bk', ep', tp', tl'⟩, p0, p1, p2, k0, k1, k2⟩⟩) (H' := onH N o T R ⟨i, ⟨W', st + 1, kd', wd', vl', ch', c0, c1, some ⟨true, lg', key', ph', seq', j', fd', hd', tm', er', pl', sn', fl', bk', ep', tp', tl'⟩, p0, p1, p2, k0, k1, k2⟩⟩) [0, 1, 2, 3, 4, 5, 6, 7, 8, 9, 10, 11, 12, 13, 14] rfl rfl rfl rfl ?tt ?hh ?ot ?ok (ss_sw hX (sw_ss (hXTl pp) (cs := []) h1)); (case tt => (exact clhT)); (case hh => (try simp only); (exact clhT)); (case ot => (exact clkT)); (case ok => (exact clkT)))
set_option maxHeartbeats 4000000 in
theorem tt2rd (h : OInv T R N 0 x) (hin : x.i < N) (hi : x.i < 200) {lg : Bool} {key : Int} {ph : Nat} {seq : Int} {j : Nat} {fd : Int} {hd : Bool} {tm er pl sn fl bk ep tp : Int} {tl : Bool} (hc : x.z.c2 = some ⟨true, lg, key, ph, seq, j, fd, hd, tm, er, pl, sn, fl, bk, ep, tp, tl⟩) {r : TR} (hst : tStep T R (sfT T R key) ⟨true, lg, key, ph, seq, j, fd, hd, tm, er, pl, sn, fl, bk, ep, tp, tl⟩ x.z.W x.z.st = r) (e0 : r.s.ph = 0)
    (J : OJ T R N cap o x ρ w I) : ∃ p, OK p 2 T R N cap o x ρ w I := by
  have F := h.facts hin hi
  have c0h := h.c0
  have c1h := h.c1
  have c2h := h.c2
  have dh := h.d
  obtain ⟨i, ⟨W, st, kd, wd, vl, ch, c0, c1, c2, p0, p1, p2, k0, k1, k2⟩⟩ := x
  dsimp only at hin hi hc hst F c0h c1h c2h dh
  subst hc
  obtain ⟨hin1, hi1, ewi, t1, t4, r1, r8, hl, s0, s1, hw⟩ := F
  have hr := right_TR t1 t4 r1 r8
  have hb := h.b
  dsimp only at hb
  have hP : TPre T R (sfT T R key) ⟨true, lg, key, ph, seq, j, fd, hd, tm, er, pl, sn, fl, bk, ep, tp, tl⟩ W st := pre_of hb c2h
  have kk := step_k hb c2h (by omega)
  have dd := dh.step (a := 2) (R := R) (st := st) rfl
  rw [upd2] at dd
  dsimp only at dd
  rw [hst] at kk dd
  obtain ⟨⟨rm', lg', key', ph', seq', j', fd', hd', tm', er', pl', sn', fl', bk', ep', tp', tl'⟩, W', kd', wd', vl', ch'⟩ := r
  obtain rfl : rm' = true := kk.rm
  dsimp only at e0 dd
  subst e0
  rw [if_pos rfl] at dd
  refine ⟨⟨T, R, sfT T R key, 0, false, false, ⟨true, lg, key, ph, seq, j, fd, hd, tm, er, pl, sn, fl, bk, ep, tp, tl⟩, ⟨⟨true, lg', key', 0, seq', j', fd', hd', tm', er', pl', sn', fl', bk', ep', tp', tl'⟩, W', kd', wd', vl', ch'⟩⟩, ?_⟩
  have hX := hXTl ⟨T, R, sfT T R key, 0, false, false, ⟨true, lg, key, ph, seq, j, fd, hd, tm, er, pl, sn, fl, bk, ep, tp, tl⟩, ⟨⟨true, lg', key', 0, seq', j', fd', hd', tm', er', pl', sn', fl', bk', ep', tp', tl'⟩, W', kd', wd', vl', ch'⟩⟩
  dsimp only [OK, onK, onH, tqH]
  refine sxb hX [.r 21] [] 4000 rfl (by (simp [-List.getD_eq_getElem?_getD, -List.length_eq_zero_iff, conjP, hP, hst, ruC, cond_true])) ?_
  refine sxb hX [.r 21] [.T] 4000 rfl (by (simp [-List.getD_eq_getElem?_getD, -List.length_eq_zero_iff, conjP, addOP])) ?_
  (obtain ⟨pp, h1⟩ := J ⟨i, ⟨W', st + 1, kd', wd', vl', ch', c0, c1, none, p0, p1, p2, k0, k1, k2⟩⟩ ⟨kk.b.mono (by dsimp only; omega) (by dsimp only; omega), okO_mono (by dsimp only; omega) c0h, okO_mono (by dsimp only; omega) c1h, trivial, dd, by dsimp only; omega, by dsimp only; omega⟩ rfl; refine ss_sub hX (T' := onT N cap ⟨i, ⟨W', st + 1, kd', wd', vl', ch', c0, c1, none, p0, p1, p2, k0, k1, k2⟩⟩) (H' := onH N o T R ⟨i, ⟨W', st + 1, kd', wd', vl', ch', c0, c1, none, p0, p1, p2, k0, k1, k2⟩⟩) [0, 1, 2, 3, 4, 5, 6, 7, 8, 9, 10, 11, 12, 13, 14] rfl rfl rfl rfl ?tt ?hh ?ot ?ok (ss_sw hX (sw_ss (hXTl pp) (cs := []) h1)); (case tt => (exact clhT)); (case hh => (try simp only); (exact clhT)); (case ot => (exact clkT)); (case ok => (exact clkT)))
end
end Go.Proofs.YtkkddjchkkaagaaGreatDoor
