/- TopicsPlay: client 2 has its turn. -/
import Derived.Test.YtkkddjchkkaagaaGreatDoorPlayWorld
namespace Go.Proofs.YtkkddjchkkaagaaGreatDoor
open Go Go.Hx
set_option maxRecDepth 8000
section
variable {T : Nat} {R : Int} {N cap : Nat} {o : Nat → Int × Int × Bool × Bool} {x : AS} {ρ : Nat → Nat × Nat} {w : World} {I : Act → World → Prop}
set_option maxHeartbeats 4000000 in
theorem yg2f (h : YInv T R N x) (hin : x.i < N) (hi : x.i < 150) (ha : ibits .and .i64 (o x.i).1 3 = 2) (hc : x.z.c2 = none) (hbk : (o x.i).2.2.1 = false)
    (J : ∀ x', YInv T R N x' → x'.i = x.i → x'.z.c2 ≠ none → ∃ p, YK p 2 T R N cap o x' ρ w I) : ∃ p, YG p T R N cap o x ρ w I := by
  have F := h.facts hin hi
  have c0h := h.c0
  have c1h := h.c1
  have c2h := h.c2
  obtain ⟨i, ⟨W, st, kd, wd, vl, ch, c0, c1, c2, p0, p1, p2, k0, k1, k2⟩⟩ := x
  dsimp only at hin hi ha hc hbk F c0h c1h c2h
  subst hc
  obtain ⟨hin1, hi1, ewi, t1, t4, r1, r8, hl, s0, s1, hw⟩ := F
  have hr := right_TR t1 t4 r1 r8
  obtain ⟨kq1, kq6⟩ := cRemB 1 6 (o i).2.1 (by decide) (by decide) (by decide) (by decide)
  refine ⟨⟨T, R, 0, 0, false, false, false, t00, r00, 0⟩, ?_⟩
  have hX := hXTl ⟨T, R, 0, 0, false, false, false, t00, r00, 0⟩
  dsimp only [YG, ypT, ypH, yqH]
  refine sxb hX [.r 17] [] 4000 rfl (by (simp [-List.getD_eq_getElem?_getD, -List.length_eq_zero_iff, conjP])) ?_
  refine sxb hX [.r 17] [.T] 4000 rfl (by (simp [-List.getD_eq_getElem?_getD, -List.length_eq_zero_iff, conjP, addOP, hin1])) ?_
  refine sxb hX [.r 17] [.T] 4000 rfl (by (simp [-List.getD_eq_getElem?_getD, -List.length_eq_zero_iff, conjP, hin, hin1, hi1, Int.toNat_natCast])) ?_
  refine sxb hX [.r 17] [.F] 4000 rfl (by (simp [-List.getD_eq_getElem?_getD, -List.length_eq_zero_iff, conjP, addOP, ha, Int.toNat_natCast])) ?_
  (refine sx hX [] 4 rfl (by first | exact trivial | simp [conjP]) ?_; simp only [ha, Int.toNat_natCast]; refine sxb hX [.r 19] [] 4000 rfl (by first | exact trivial | simp [conjP, hbk, t1, t4, r1, r8, clO, crP, rmP]) ?_; obtain ⟨pp, h1⟩ := J ⟨i, ⟨W, st, kd, wd, vl, ch, c0, c1, some (newT false (o i).2.2.2 (cRem 1 6 (o i).2.1)), p0, p1, p2, k0, k1, (cRem 1 6 (o i).2.1)⟩⟩ ⟨h.b, c0h, c1h, ⟨new_tc h.b kq1 (by omega), pc_new⟩, by dsimp only; omega, by dsimp only; omega⟩ rfl (fun q => by cases q); refine ss_sub hX (T' := ypK 2 N cap ⟨i, ⟨W, st, kd, wd, vl, ch, c0, c1, some (newT false (o i).2.2.2 (cRem 1 6 (o i).2.1)), p0, p1, p2, k0, k1, (cRem 1 6 (o i).2.1)⟩⟩) (H' := ypH N o T R ⟨i, ⟨W, st, kd, wd, vl, ch, c0, c1, some (newT false (o i).2.2.2 (cRem 1 6 (o i).2.1)), p0, p1, p2, k0, k1, (cRem 1 6 (o i).2.1)⟩⟩) [0, 1, 2, 3, 4, 5, 6, 7, 8, 9, 10, 11, 12, 13, 14, 15, 16, 21, 22, 23] rfl rfl rfl rfl ?tt ?hh ?ot ?ok (ss_sw hX (sw_ss (hXTl pp) (cs := []) h1)); (case tt => (try simp only [ewi]); (exact clhY)); (case hh => (try simp only); (exact clhY)); (case ot => (exact clkY)); (case ok => (exact clkY)))
set_option maxHeartbeats 4000000 in
theorem yg2t (h : YInv T R N x) (hin : x.i < N) (hi : x.i < 150) (ha : ibits .and .i64 (o x.i).1 3 = 2) (hc : x.z.c2 = none) (hbk : (o x.i).2.2.1 = true)
    (J : ∀ x', YInv T R N x' → x'.i = x.i → x'.z.c2 ≠ none → ∃ p, YK p 2 T R N cap o x' ρ w I) : ∃ p, YG p T R N cap o x ρ w I := by
  have F := h.facts hin hi
  have c0h := h.c0
  have c1h := h.c1
  have c2h := h.c2
  obtain ⟨i, ⟨W, st, kd, wd, vl, ch, c0, c1, c2, p0, p1, p2, k0, k1, k2⟩⟩ := x
  dsimp only at hin hi ha hc hbk F c0h c1h c2h
  subst hc
  obtain ⟨hin1, hi1, ewi, t1, t4, r1, r8, hl, s0, s1, hw⟩ := F
  have hr := right_TR t1 t4 r1 r8
  obtain ⟨kq1, kq6⟩ := cRemB 1 6 (o i).2.1 (by decide) (by decide) (by decide) (by decide)
  refine ⟨⟨T, R, 0, 0, false, true, false, t00, r00, 0⟩, ?_⟩
  have hX := hXTl ⟨T, R, 0, 0, false, true, false, t00, r00, 0⟩
  dsimp only [YG, ypT, ypH, yqH]
  refine sxb hX [.r 17] [] 4000 rfl (by (simp [-List.getD_eq_getElem?_getD, -List.length_eq_zero_iff, conjP])) ?_
  refine sxb hX [.r 17] [.T] 4000 rfl (by (simp [-List.getD_eq_getElem?_getD, -List.length_eq_zero_iff, conjP, addOP, hin1])) ?_
  refine sxb hX [.r 17] [.T] 4000 rfl (by (simp [-List.getD_eq_getElem?_getD, -List.length_eq_zero_iff, conjP, hin, hin1, hi1, Int.toNat_natCast])) ?_
  refine sxb hX [.r 17] [.F] 4000 rfl (by (simp [-List.getD_eq_getElem?_getD, -List.length_eq_zero_iff, conjP, addOP, ha, Int.toNat_natCast])) ?_
  (refine sx hX [] 4 rfl (by first | exact trivial | simp [conjP]) ?_; simp only [ha, Int.toNat_natCast]; refine sxb hX [.r 19] [] 4000 rfl (by first | exact trivial | simp [conjP, hbk, t1, t4, r1, r8, clO, crP, rmP]) ?_; obtain ⟨pp, h1⟩ := J ⟨i, ⟨W, st, kd, wd, vl, ch, c0, c1, some (newT true (o i).2.2.2 (cRem 1 6 (o i).2.1)), p0, p1, p2, k0, k1, (cRem 1 6 (o i).2.1)⟩⟩ ⟨h.b, c0h, c1h, ⟨new_tc h.b kq1 (by omega), pc_new⟩, by dsimp only; omega, by dsimp only; omega⟩ rfl (fun q => by cases q); refine ss_sub hX (T' := ypK 2 N cap ⟨i, ⟨W, st, kd, wd, vl, ch, c0, c1, some (newT true (o i).2.2.2 (cRem 1 6 (o i).2.1)), p0, p1, p2, k0, k1, (cRem 1 6 (o i).2.1)⟩⟩) (H' := ypH N o T R ⟨i, ⟨W, st, kd, wd, vl, ch, c0, c1, some (newT true (o i).2.2.2 (cRem 1 6 (o i).2.1)), p0, p1, p2, k0, k1, (cRem 1 6 (o i).2.1)⟩⟩) [0, 1, 2, 3, 4, 5, 6, 7, 8, 9, 10, 11, 12, 13, 14, 15, 16, 21, 22, 23] rfl rfl rfl rfl ?tt ?hh ?ot ?ok (ss_sw hX (sw_ss (hXTl pp) (cs := []) h1)); (case tt => (try simp only [ewi]); (exact clhY)); (case hh => (try simp only [if_true]); (exact clhY)); (case ot => (exact clkY)); (case ok => (exact clkY)))
set_option maxHeartbeats 4000000 in
theorem yo2c (h : YInv T R N x) (hin : x.i < N) (hi : x.i < 150) (ha : ibits .and .i64 (o x.i).1 3 = 2) {lg : Bool} {key : Int} {ph : Nat} {seq : Int} {j : Nat} {fd : Int} {hd : Bool} {tm er pl sn fl bk ep tp : Int} {tl : Bool} (hc : x.z.c2 = some ⟨false, lg, key, ph, seq, j, fd, hd, tm, er, pl, sn, fl, bk, ep, tp, tl⟩)
    (J : ∀ x', YInv T R N x' → x'.i = x.i → x'.z.c2 ≠ none → ∃ p, YK p 2 T R N cap o x' ρ w I) : ∃ p, YG p T R N cap o x ρ w I := by
  have F := h.facts hin hi
  have c0h := h.c0
  have c1h := h.c1
  have c2h := h.c2
  obtain ⟨i, ⟨W, st, kd, wd, vl, ch, c0, c1, c2, p0, p1, p2, k0, k1, k2⟩⟩ := x
  dsimp only at hin hi ha hc F c0h c1h c2h
  subst hc
  obtain ⟨hin1, hi1, ewi, t1, t4, r1, r8, hl, s0, s1, hw⟩ := F
  have hr := right_TR t1 t4 r1 r8
  refine ⟨⟨T, R, 0, 0, false, false, false, t00, r00, 0⟩, ?_⟩
  refine ss_sw (hXTl ⟨T, R, 0, 0, false, false, false, t00, r00, 0⟩) (sw_ss hXTm (cs := []) ?_)
  have hX := hXTm
  dsimp only [ypT, ypH, yqH]
  refine sxb hX [.r 17] [] 4000 rfl (by (simp [-List.getD_eq_getElem?_getD, -List.length_eq_zero_iff, conjP])) ?_
  refine sxb hX [.r 17] [.T] 4000 rfl (by (simp [-List.getD_eq_getElem?_getD, -List.length_eq_zero_iff, conjP, addOP, hin1])) ?_
  refine sxb hX [.r 17] [.T] 4000 rfl (by (simp [-List.getD_eq_getElem?_getD, -List.length_eq_zero_iff, conjP, hin, hin1, hi1, Int.toNat_natCast])) ?_
  refine sxb hX [.r 17] [.F] 4000 rfl (by (simp [-List.getD_eq_getElem?_getD, -List.length_eq_zero_iff, conjP, addOP, ha, Int.toNat_natCast])) ?_
  (refine sx hX [] 4 rfl (by first | exact trivial | simp [conjP]) ?_; simp only [ha, Int.toNat_natCast]; refine sxb hX [.r 19] [] 4000 rfl (by first | exact trivial | simp [conjP, addOP]) ?_; obtain ⟨pp, h1⟩ := J ⟨i, ⟨W, st, kd, wd, vl, ch, c0, c1, some ⟨false, lg, key, ph, seq, j, fd, hd, tm, er, pl, sn, fl, bk, ep, tp, tl⟩, p0, p1, p2, k0, k1, k2⟩⟩ ⟨h.b, c0h, c1h, c2h, by dsimp only; omega, by dsimp only; omega⟩ rfl (fun q => by cases q); refine ss_sub hX (T' := ypK 2 N cap ⟨i, ⟨W, st, kd, wd, vl, ch, c0, c1, some ⟨false, lg, key, ph, seq, j, fd, hd, tm, er, pl, sn, fl, bk, ep, tp, tl⟩, p0, p1, p2, k0, k1, k2⟩⟩) (H' := ypH N o T R ⟨i, ⟨W, st, kd, wd, vl, ch, c0, c1, some ⟨false, lg, key, ph, seq, j, fd, hd, tm, er, pl, sn, fl, bk, ep, tp, tl⟩, p0, p1, p2, k0, k1, k2⟩⟩) [0, 1, 2, 3, 4, 5, 6, 7, 8, 9, 10, 11, 12, 13, 14, 15, 16, 17, 18, 19] rfl rfl rfl rfl ?tt ?hh ?ot ?ok (ss_sw hX (sw_ss (hXTl pp) (cs := []) h1)); (case tt => (try simp only [ewi]); (exact clhY)); (case hh => (try simp only [if_true, Int.toNat_natCast, List.length_set]); (exact clhY)); (case ot => (exact clkY)); (case ok => (exact clkY)))
set_option maxHeartbeats 4000000 in
theorem yt2cn (h : YInv T R N x) (hin : x.i < N) (hi : x.i < 150) {lg : Bool} {key : Int} {ph : Nat} {seq : Int} {j : Nat} {fd : Int} {hd : Bool} {tm er pl sn fl bk ep tp : Int} {tl : Bool} (hc : x.z.c2 = some ⟨false, lg, key, ph, seq, j, fd, hd, tm, er, pl, sn, fl, bk, ep, tp, tl⟩) {r : TR} (hst : tStep T R (sfT T R key) ⟨false, lg, key, ph, seq, j, fd, hd, tm, er, pl, sn, fl, bk, ep, tp, tl⟩ x.z.W x.z.st = r) (e0 : ¬ r.s.ph = 0)
    (J : ∀ p, YJ p T R N cap o x ρ w I) : ∃ p, YK p 2 T R N cap o x ρ w I := by
  have F := h.facts hin hi
  have c0h := h.c0
  have c1h := h.c1
  have c2h := h.c2
  obtain ⟨i, ⟨W, st, kd, wd, vl, ch, c0, c1, c2, p0, p1, p2, k0, k1, k2⟩⟩ := x
  dsimp only at hin hi hc hst F c0h c1h c2h
  subst hc
  obtain ⟨hin1, hi1, ewi, t1, t4, r1, r8, hl, s0, s1, hw⟩ := F
  have hr := right_TR t1 t4 r1 r8
  have hb := h.b
  dsimp only at hb
  obtain ⟨hC, hPC⟩ := c2h
  have hP : TPre T R (sfT T R key) ⟨false, lg, key, ph, seq, j, fd, hd, tm, er, pl, sn, fl, bk, ep, tp, tl⟩ W st := pre_of hb hC
  have kk := step_k hb hC (by omega)
  have pcs := pc_step hP hPC
  obtain ⟨dp, hD, hdp⟩ := dstep_fn (kd := kd) (wd := wd) (vl := vl) (ch := ch) hP (dpre_of hP hPC)
  dsimp only at kk
  have hD : DQ T R (sfT T R key) ⟨false, lg, key, ph, seq, j, fd, hd, tm, er, pl, sn, fl, bk, ep, tp, tl⟩ W st kd wd vl ch _ _ _ := hD
  rw [hst] at kk pcs hD hdp
  obtain ⟨⟨rm', lg', key', ph', seq', j', fd', hd', tm', er', pl', sn', fl', bk', ep', tp', tl'⟩, W', kd', wd', vl', ch'⟩ := r
  obtain rfl : rm' = false := kk.rm
  dsimp only at e0 hdp
  have hdpl := hdp e0
  subst hdpl
  obtain rfl : key' = key := kk.key
  have hz : ZQ false false ⟨⟨false, lg', key', ph', seq', j', fd', hd', tm', er', pl', sn', fl', bk', ep', tp', tl'⟩, W', kd', wd', vl', ch'⟩ := fun q => by cases q
  refine ⟨⟨T, R, sfT T R key', 0, false, false, false, ⟨false, lg, key', ph, seq, j, fd, hd, tm, er, pl, sn, fl, bk, ep, tp, tl⟩, ⟨⟨false, lg', key', ph', seq', j', fd', hd', tm', er', pl', sn', fl', bk', ep', tp', tl'⟩, W', kd', wd', vl', ch'⟩, dpl T (sfT T R key') ⟨false, lg', key', ph', seq', j', fd', hd', tm', er', pl', sn', fl', bk', ep', tp', tl'⟩⟩, ?_⟩
  have hX := hXTl ⟨T, R, sfT T R key', 0, false, false, false, ⟨false, lg, key', ph, seq, j, fd, hd, tm, er, pl, sn, fl, bk, ep, tp, tl⟩, ⟨⟨false, lg', key', ph', seq', j', fd', hd', tm', er', pl', sn', fl', bk', ep', tp', tl'⟩, W', kd', wd', vl', ch'⟩, dpl T (sfT T R key') ⟨false, lg', key', ph', seq', j', fd', hd', tm', er', pl', sn', fl', bk', ep', tp', tl'⟩⟩
  dsimp only [YK, ypK, ypH, yqH]
  refine sx hX [] 4000 rfl (by (simp [-List.getD_eq_getElem?_getD, -List.length_eq_zero_iff, conjP, hP, hst, hD, hz, e0, ruC, crP, rmP, cond_false])) ?_
  refine sx hX [.K, .K, .F] 4000 rfl (by (simp [-List.getD_eq_getElem?_getD, -List.length_eq_zero_iff, conjP, getH, HE.so])) ?_
  refine sx hX [.F] 4000 rfl (by (simp [-List.getD_eq_getElem?_getD, -List.length_eq_zero_iff, conjP, addOP])) ?_
  (refine J _ ⟨i + 1, ⟨W', st + 1, kd', wd', vl', ch', c0, c1, some ⟨false, lg', key', ph', seq', j', fd', hd', tm', er', pl', sn', fl', bk', ep', tp', tl'⟩, p0, p1, p2, k0, k1, k2⟩⟩ ⟨kk.b.mono (by dsimp only; omega) (by dsimp only; omega), okO_mono (by dsimp only; omega) c0h, okO_mono (by dsimp only; omega) c1h, ⟨(kk.c e0).mono (by dsimp only; omega), pcs⟩, by dsimp only; omega, by dsimp only; omega⟩ rfl _ _ _ (sub_of [0, 1, 2, 3, 4, 5, 6, 7, 8, 9, 10, 11, 12, 13, 14, 15, 16, 17, 18, 19] rfl rfl rfl rfl ?tt ?hh ?ot ?ok); (case tt => (try simp only [ewi]); (exact clhY)); (case hh => (try simp only); (exact clhY)); (case ot => (exact clkY)); (case ok => (exact clkY)))
set_option maxHeartbeats 4000000 in
theorem yt2cd (h : YInv T R N x) (hin : x.i < N) (hi : x.i < 150) {lg : Bool} {key : Int} {ph : Nat} {seq : Int} {j : Nat} {fd : Int} {hd : Bool} {tm er pl sn fl bk ep tp : Int} {tl : Bool} (hc : x.z.c2 = some ⟨false, lg, key, ph, seq, j, fd, hd, tm, er, pl, sn, fl, bk, ep, tp, tl⟩) {r : TR} (hst : tStep T R (sfT T R key) ⟨false, lg, key, ph, seq, j, fd, hd, tm, er, pl, sn, fl, bk, ep, tp, tl⟩ x.z.W x.z.st = r) (e0 : r.s.ph = 0)
    (J : ∀ p, YJ p T R N cap o x ρ w I) : ∃ p, YK p 2 T R N cap o x ρ w I := by
  have F := h.facts hin hi
  have c0h := h.c0
  have c1h := h.c1
  have c2h := h.c2
  obtain ⟨i, ⟨W, st, kd, wd, vl, ch, c0, c1, c2, p0, p1, p2, k0, k1, k2⟩⟩ := x
  dsimp only at hin hi hc hst F c0h c1h c2h
  subst hc
  obtain ⟨hin1, hi1, ewi, t1, t4, r1, r8, hl, s0, s1, hw⟩ := F
  have hr := right_TR t1 t4 r1 r8
  have hb := h.b
  dsimp only at hb
  obtain ⟨hC, hPC⟩ := c2h
  have hP : TPre T R (sfT T R key) ⟨false, lg, key, ph, seq, j, fd, hd, tm, er, pl, sn, fl, bk, ep, tp, tl⟩ W st := pre_of hb hC
  have kk := step_k hb hC (by omega)
  have pcs := pc_step hP hPC
  obtain ⟨dp, hD, hdp⟩ := dstep_fn (kd := kd) (wd := wd) (vl := vl) (ch := ch) hP (dpre_of hP hPC)
  dsimp only at kk
  have hD : DQ T R (sfT T R key) ⟨false, lg, key, ph, seq, j, fd, hd, tm, er, pl, sn, fl, bk, ep, tp, tl⟩ W st kd wd vl ch _ _ _ := hD
  rw [hst] at kk pcs hD hdp
  obtain ⟨⟨rm', lg', key', ph', seq', j', fd', hd', tm', er', pl', sn', fl', bk', ep', tp', tl'⟩, W', kd', wd', vl', ch'⟩ := r
  obtain rfl : rm' = false := kk.rm
  dsimp only at e0 hdp
  subst e0
  have hz : ZQ false true ⟨⟨false, lg', key', 0, seq', j', fd', hd', tm', er', pl', sn', fl', bk', ep', tp', tl'⟩, W', kd', wd', vl', ch'⟩ := fun _ => ⟨pcs.hd, fun a b => pcs.tz a (.inr b)⟩
  refine ⟨⟨T, R, sfT T R key, 0, false, false, true, ⟨false, lg, key, ph, seq, j, fd, hd, tm, er, pl, sn, fl, bk, ep, tp, tl⟩, ⟨⟨false, lg', key', 0, seq', j', fd', hd', tm', er', pl', sn', fl', bk', ep', tp', tl'⟩, W', kd', wd', vl', ch'⟩, dp⟩, ?_⟩
  have hX := hXTl ⟨T, R, sfT T R key, 0, false, false, true, ⟨false, lg, key, ph, seq, j, fd, hd, tm, er, pl, sn, fl, bk, ep, tp, tl⟩, ⟨⟨false, lg', key', 0, seq', j', fd', hd', tm', er', pl', sn', fl', bk', ep', tp', tl'⟩, W', kd', wd', vl', ch'⟩, dp⟩
  dsimp only [YK, ypK, ypH, yqH]
  refine sx hX [] 4000 rfl (by (simp [-List.getD_eq_getElem?_getD, -List.length_eq_zero_iff, conjP, hP, hst, hD, hz, ruC, crP, rmP, cond_false])) ?_
  refine sx hX [.K, .K, .F] 4000 rfl (by (simp [-List.getD_eq_getElem?_getD, -List.length_eq_zero_iff, conjP, getH, HE.so])) ?_
  refine sx hX [.F] 4000 rfl (by (simp [-List.getD_eq_getElem?_getD, -List.length_eq_zero_iff, conjP, addOP])) ?_
  (refine ss_raw hX 10 2 rfl rfl fun v => ?_; refine J _ ⟨i + 1, ⟨W', st + 1, kd', wd', vl', ch', c0, c1, none, p0, p1, v, k0, k1, k2⟩⟩ ⟨kk.b.mono (by dsimp only; omega) (by dsimp only; omega), okO_mono (by dsimp only; omega) c0h, okO_mono (by dsimp only; omega) c1h, trivial, by dsimp only; omega, by dsimp only; omega⟩ rfl _ _ _ (sub_of [0, 1, 2, 3, 4, 5, 6, 7, 8, 9, 10, 11, 12, 13, 14, 15, 16, 17, 18, 19] rfl rfl rfl rfl ?tt ?hh ?ot ?ok); (case tt => (try simp only [ewi]); (exact clhY)); (case hh => (try simp only); (exact clhY)); (case ot => (exact clkY)); (case ok => (exact clkY)))
set_option maxHeartbeats 4000000 in
theorem yo2r (h : YInv T R N x) (hin : x.i < N) (hi : x.i < 150) (ha : ibits .and .i64 (o x.i).1 3 = 2) {lg : Bool} {key : Int} {ph : Nat} {seq : Int} {j : Nat} {fd : Int} {hd : Bool} {tm er pl sn fl bk ep tp : Int} {tl : Bool} (hc : x.z.c2 = some ⟨true, lg, key, ph, seq, j, fd, hd, tm, er, pl, sn, fl, bk, ep, tp, tl⟩)
    (J : ∀ x', YInv T R N x' → x'.i = x.i → x'.z.c2 ≠ none → ∃ p, YK p 2 T R N cap o x' ρ w I) : ∃ p, YG p T R N cap o x ρ w I := by
  have F := h.facts hin hi
  have c0h := h.c0
  have c1h := h.c1
  have c2h := h.c2
  obtain ⟨i, ⟨W, st, kd, wd, vl, ch, c0, c1, c2, p0, p1, p2, k0, k1, k2⟩⟩ := x
  dsimp only at hin hi ha hc F c0h c1h c2h
  subst hc
  obtain ⟨hin1, hi1, ewi, t1, t4, r1, r8, hl, s0, s1, hw⟩ := F
  have hr := right_TR t1 t4 r1 r8
  refine ⟨⟨T, R, 0, 0, false, false, false, t00, r00, 0⟩, ?_⟩
  refine ss_sw (hXTl ⟨T, R, 0, 0, false, false, false, t00, r00, 0⟩) (sw_ss hXTm (cs := []) ?_)
  have hX := hXTm
  dsimp only [ypT, ypH, yqH]
  refine sxb hX [.r 17] [] 4000 rfl (by (simp [-List.getD_eq_getElem?_getD, -List.length_eq_zero_iff, conjP])) ?_
  refine sxb hX [.r 17] [.T] 4000 rfl (by (simp [-List.getD_eq_getElem?_getD, -List.length_eq_zero_iff, conjP, addOP, hin1])) ?_
  refine sxb hX [.r 17] [.T] 4000 rfl (by (simp [-List.getD_eq_getElem?_getD, -List.length_eq_zero_iff, conjP, hin, hin1, hi1, Int.toNat_natCast])) ?_
  refine sxb hX [.r 17] [.F] 4000 rfl (by (simp [-List.getD_eq_getElem?_getD, -List.length_eq_zero_iff, conjP, addOP, ha, Int.toNat_natCast])) ?_
  (refine sx hX [] 4 rfl (by first | exact trivial | simp [conjP]) ?_; simp only [ha, Int.toNat_natCast]; refine sxb hX [.r 19] [] 4000 rfl (by first | exact trivial | simp [conjP, addOP]) ?_; obtain ⟨pp, h1⟩ := J ⟨i, ⟨W, st, kd, wd, vl, ch, c0, c1, some ⟨true, lg, key, ph, seq, j, fd, hd, tm, er, pl, sn, fl, bk, ep, tp, tl⟩, p0, p1, p2, k0, k1, k2⟩⟩ ⟨h.b, c0h, c1h, c2h, by dsimp only; omega, by dsimp only; omega⟩ rfl (fun q => by cases q); refine ss_sub hX (T' := ypK 2 N cap ⟨i, ⟨W, st, kd, wd, vl, ch, c0, c1, some ⟨true, lg, key, ph, seq, j, fd, hd, tm, er, pl, sn, fl, bk, ep, tp, tl⟩, p0, p1, p2, k0, k1, k2⟩⟩) (H' := ypH N o T R ⟨i, ⟨W, st, kd, wd, vl, ch, c0, c1, some ⟨true, lg, key, ph, seq, j, fd, hd, tm, er, pl, sn, fl, bk, ep, tp, tl⟩, p0, p1, p2, k0, k1, k2⟩⟩) [0, 1, 2, 3, 4, 5, 6, 7, 8, 9, 10, 11, 12, 13, 14, 15, 16, 17, 18, 19] rfl rfl rfl rfl ?tt ?hh ?ot ?ok (ss_sw hX (sw_ss (hXTl pp) (cs := []) h1)); (case tt => (try simp only [ewi]); (exact clhY)); (case hh => (try simp only [if_true, Int.toNat_natCast, List.length_set]); (exact clhY)); (case ot => (exact clkY)); (case ok => (exact clkY)))
set_option maxHeartbeats 4000000 in
theorem yt2rn (h : YInv T R N x) (hin : x.i < N) (hi : x.i < 150) {lg : Bool} {key : Int} {ph : Nat} {seq : Int} {j : Nat} {fd : Int} {hd : Bool} {tm er pl sn fl bk ep tp : Int} {tl : Bool} (hc : x.z.c2 = some ⟨true, lg, key, ph, seq, j, fd, hd, tm, er, pl, sn, fl, bk, ep, tp, tl⟩) {r : TR} (hst : tStep T R (sfT T R key) ⟨true, lg, key, ph, seq, j, fd, hd, tm, er, pl, sn, fl, bk, ep, tp, tl⟩ x.z.W x.z.st = r) (e0 : ¬ r.s.ph = 0)
    (J : ∀ p, YJ p T R N cap o x ρ w I) : ∃ p, YK p 2 T R N cap o x ρ w I := by
  have F := h.facts hin hi
  have c0h := h.c0
  have c1h := h.c1
  have c2h := h.c2
  obtain ⟨i, ⟨W, st, kd, wd, vl, ch, c0, c1, c2, p0, p1, p2, k0, k1, k2⟩⟩ := x
  dsimp only at hin hi hc hst F c0h c1h c2h
  subst hc
  obtain ⟨hin1, hi1, ewi, t1, t4, r1, r8, hl, s0, s1, hw⟩ := F
  have hr := right_TR t1 t4 r1 r8
  have hb := h.b
  dsimp only at hb
  obtain ⟨hC, hPC⟩ := c2h
  have hP : TPre T R (sfT T R key) ⟨true, lg, key, ph, seq, j, fd, hd, tm, er, pl, sn, fl, bk, ep, tp, tl⟩ W st := pre_of hb hC
  have kk := step_k hb hC (by omega)
  have pcs := pc_step hP hPC
  obtain ⟨dp, hD, hdp⟩ := dstep_fn (kd := kd) (wd := wd) (vl := vl) (ch := ch) hP (dpre_of hP hPC)
  dsimp only at kk
  have hD : DQ T R (sfT T R key) ⟨true, lg, key, ph, seq, j, fd, hd, tm, er, pl, sn, fl, bk, ep, tp, tl⟩ W st kd wd vl ch _ _ _ := hD
  rw [hst] at kk pcs hD hdp
  obtain ⟨⟨rm', lg', key', ph', seq', j', fd', hd', tm', er', pl', sn', fl', bk', ep', tp', tl'⟩, W', kd', wd', vl', ch'⟩ := r
  obtain rfl : rm' = true := kk.rm
  dsimp only at e0 hdp
  have hdpl := hdp e0
  subst hdpl
  obtain rfl : key' = key := kk.key
  have hz : ZQ true false ⟨⟨true, lg', key', ph', seq', j', fd', hd', tm', er', pl', sn', fl', bk', ep', tp', tl'⟩, W', kd', wd', vl', ch'⟩ := fun q => by cases q
  refine ⟨⟨T, R, sfT T R key', 0, false, false, false, ⟨true, lg, key', ph, seq, j, fd, hd, tm, er, pl, sn, fl, bk, ep, tp, tl⟩, ⟨⟨true, lg', key', ph', seq', j', fd', hd', tm', er', pl', sn', fl', bk', ep', tp', tl'⟩, W', kd', wd', vl', ch'⟩, dpl T (sfT T R key') ⟨true, lg', key', ph', seq', j', fd', hd', tm', er', pl', sn', fl', bk', ep', tp', tl'⟩⟩, ?_⟩
  have hX := hXTl ⟨T, R, sfT T R key', 0, false, false, false, ⟨true, lg, key', ph, seq, j, fd, hd, tm, er, pl, sn, fl, bk, ep, tp, tl⟩, ⟨⟨true, lg', key', ph', seq', j', fd', hd', tm', er', pl', sn', fl', bk', ep', tp', tl'⟩, W', kd', wd', vl', ch'⟩, dpl T (sfT T R key') ⟨true, lg', key', ph', seq', j', fd', hd', tm', er', pl', sn', fl', bk', ep', tp', tl'⟩⟩
  dsimp only [YK, ypK, ypH, yqH]
  refine sx hX [] 4000 rfl (by (simp [-List.getD_eq_getElem?_getD, -List.length_eq_zero_iff, conjP, hP, hst, hD, hz, e0, ruC, crP, rmP, cond_true])) ?_
  refine sx hX [.K, .K, .F] 4000 rfl (by (simp [-List.getD_eq_getElem?_getD, -List.length_eq_zero_iff, conjP, getH, HE.so])) ?_
  refine sx hX [.F] 4000 rfl (by (simp [-List.getD_eq_getElem?_getD, -List.length_eq_zero_iff, conjP, addOP])) ?_
  (refine J _ ⟨i + 1, ⟨W', st + 1, kd', wd', vl', ch', c0, c1, some ⟨true, lg', key', ph', seq', j', fd', hd', tm', er', pl', sn', fl', bk', ep', tp', tl'⟩, p0, p1, p2, k0, k1, k2⟩⟩ ⟨kk.b.mono (by dsimp only; omega) (by dsimp only; omega), okO_mono (by dsimp only; omega) c0h, okO_mono (by dsimp only; omega) c1h, ⟨(kk.c e0).mono (by dsimp only; omega), pcs⟩, by dsimp only; omega, by dsimp only; omega⟩ rfl _ _ _ (sub_of [0, 1, 2, 3, 4, 5, 6, 7, 8, 9, 10, 11, 12, 13, 14, 15, 16, 17, 18, 19] rfl rfl rfl rfl ?tt ?hh ?ot ?ok); (case tt => (try simp only [ewi]); (exact clhY)); (case hh => (try simp only); (exact clhY)); (case ot => (exact clkY)); (case ok => (exact clkY)))
set_option maxHeartbeats 4000000 in
theorem yt2rd (h : YInv T R N x) (hin : x.i < N) (hi : x.i < 150) {lg : Bool} {key : Int} {ph : Nat} {seq : Int} {j : Nat} {fd : Int} {hd : Bool} {tm er pl sn fl bk ep tp : Int} {tl : Bool} (hc : x.z.c2 = some ⟨true, lg, key, ph, seq, j, fd, hd, tm, er, pl, sn, fl, bk, ep, tp, tl⟩) {r : TR} (hst : tStep T R (sfT T R key) ⟨true, lg, key, ph, seq, j, fd, hd, tm, er, pl, sn, fl, bk, ep, tp, tl⟩ x.z.W x.z.st = r) (e0 : r.s.ph = 0)
    (J : ∀ p, YJ p T R N cap o x ρ w I) : ∃ p, YK p 2 T R N cap o x ρ w I := by
  have F := h.facts hin hi
  have c0h := h.c0
  have c1h := h.c1
  have c2h := h.c2
  obtain ⟨i, ⟨W, st, kd, wd, vl, ch, c0, c1, c2, p0, p1, p2, k0, k1, k2⟩⟩ := x
  dsimp only at hin hi hc hst F c0h c1h c2h
  subst hc
  obtain ⟨hin1, hi1, ewi, t1, t4, r1, r8, hl, s0, s1, hw⟩ := F
  have hr := right_TR t1 t4 r1 r8
  have hb := h.b
  dsimp only at hb
  obtain ⟨hC, hPC⟩ := c2h
  have hP : TPre T R (sfT T R key) ⟨true, lg, key, ph, seq, j, fd, hd, tm, er, pl, sn, fl, bk, ep, tp, tl⟩ W st := pre_of hb hC
  have kk := step_k hb hC (by omega)
  have pcs := pc_step hP hPC
  obtain ⟨dp, hD, hdp⟩ := dstep_fn (kd := kd) (wd := wd) (vl := vl) (ch := ch) hP (dpre_of hP hPC)
  dsimp only at kk
  have hD : DQ T R (sfT T R key) ⟨true, lg, key, ph, seq, j, fd, hd, tm, er, pl, sn, fl, bk, ep, tp, tl⟩ W st kd wd vl ch _ _ _ := hD
  rw [hst] at kk pcs hD hdp
  obtain ⟨⟨rm', lg', key', ph', seq', j', fd', hd', tm', er', pl', sn', fl', bk', ep', tp', tl'⟩, W', kd', wd', vl', ch'⟩ := r
  obtain rfl : rm' = true := kk.rm
  dsimp only at e0 hdp
  subst e0
  have hz : ZQ true true ⟨⟨true, lg', key', 0, seq', j', fd', hd', tm', er', pl', sn', fl', bk', ep', tp', tl'⟩, W', kd', wd', vl', ch'⟩ := fun _ => ⟨pcs.hd, fun a b => pcs.tz a (.inr b)⟩
  refine ⟨⟨T, R, sfT T R key, 0, false, false, true, ⟨true, lg, key, ph, seq, j, fd, hd, tm, er, pl, sn, fl, bk, ep, tp, tl⟩, ⟨⟨true, lg', key', 0, seq', j', fd', hd', tm', er', pl', sn', fl', bk', ep', tp', tl'⟩, W', kd', wd', vl', ch'⟩, dp⟩, ?_⟩
  have hX := hXTl ⟨T, R, sfT T R key, 0, false, false, true, ⟨true, lg, key, ph, seq, j, fd, hd, tm, er, pl, sn, fl, bk, ep, tp, tl⟩, ⟨⟨true, lg', key', 0, seq', j', fd', hd', tm', er', pl', sn', fl', bk', ep', tp', tl'⟩, W', kd', wd', vl', ch'⟩, dp⟩
  dsimp only [YK, ypK, ypH, yqH]
  refine sx hX [] 4000 rfl (by (simp [-List.getD_eq_getElem?_getD, -List.length_eq_zero_iff, conjP, hP, hst, hD, hz, ruC, crP, rmP, cond_true])) ?_
  refine sx hX [.K, .K, .F] 4000 rfl (by (simp [-List.getD_eq_getElem?_getD, -List.length_eq_zero_iff, conjP, getH, HE.so])) ?_
  refine sx hX [.F] 4000 rfl (by (simp [-List.getD_eq_getElem?_getD, -List.length_eq_zero_iff, conjP, addOP])) ?_
  (refine ss_raw hX 10 2 rfl rfl fun v => ?_; refine J _ ⟨i + 1, ⟨W', st + 1, kd', wd', vl', ch', c0, c1, none, p0, p1, v, k0, k1, k2⟩⟩ ⟨kk.b.mono (by dsimp only; omega) (by dsimp only; omega), okO_mono (by dsimp only; omega) c0h, okO_mono (by dsimp only; omega) c1h, trivial, by dsimp only; omega, by dsimp only; omega⟩ rfl _ _ _ (sub_of [0, 1, 2, 3, 4, 5, 6, 7, 8, 9, 10, 11, 12, 13, 14, 15, 16, 17, 18, 19] rfl rfl rfl rfl ?tt ?hh ?ot ?ok); (case tt => (try simp only [ewi]); (exact clhY)); (case hh => (try simp only); (exact clhY)); (case ot => (exact clkY)); (case ok => (exact clkY)))
end
end Go.Proofs.YtkkddjchkkaagaaGreatDoor
