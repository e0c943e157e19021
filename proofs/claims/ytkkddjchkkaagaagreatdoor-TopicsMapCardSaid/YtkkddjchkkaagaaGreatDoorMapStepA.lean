/- TopicsMap: client 0 has its turn: its step. -/
import Derived.Test.YtkkddjchkkaagaaGreatDoorMapRows
namespace Go.Proofs.YtkkddjchkkaagaaGreatDoor
open Go Go.Hx
set_option maxRecDepth 8000
section
variable {T : Nat} {R : Int} {N cap : Nat} {o : Nat → Int × Int × Bool × Bool} {x : US} {ρ : Nat → Nat × Nat} {w : World} {I : Act → World → Prop}
set_option maxHeartbeats 4000000 in
theorem ut0cn (h : UInv T R N x) (hs : x.i < min N 200 + 120) (hk : x.i < min N 200 ∨ x.i % 4 = 0) {lg : Bool} {key : Int} {ph : Nat} {seq : Int} {j0 : Nat} {fd : Int} {hd : Bool} {tm er pl sn fl bk ep tp : Int} {tl : Bool} (hc : x.z.c0 = some ⟨false, lg, key, ph, seq, j0, fd, hd, tm, er, pl, sn, fl, bk, ep, tp, tl⟩) {r : TR} (hst : tStep T R (sfT T R key) ⟨false, lg, key, ph, seq, j0, fd, hd, tm, er, pl, sn, fl, bk, ep, tp, tl⟩ x.z.W x.z.st = r) (e0 : ¬ r.s.ph = 0)
    (J : ∀ p, UJ p T R N cap o x ρ w I) : ∃ p, UK p 0 T R N cap o x ρ w I := by
  have hz := um_n0 h hs hk hc hst e0
  have hb := h.b
  have ck := h.c0
  have hk0 := h.k0
  have hll : x.L.length ≤ 320 := by have := h.hl; omega
  have F := h.facts (by omega)
  obtain ⟨i, ⟨W, st, kd, wd, vl, ch, c0, c1, c2, p0, p1, p2, k0, k1, k2⟩, L⟩ := x
  dsimp only at hc hst hk hs F hz hb ck hk0 hll
  subst hc
  obtain rfl : key = k0 := hk0
  obtain ⟨hi320, ewi, t1, t4, r1, r8, hl, s0, s1, hw⟩ := F
  have hr := right_TR t1 t4 r1 r8
  have hP : TPre T R (sfT T R key) ⟨false, lg, key, ph, seq, j0, fd, hd, tm, er, pl, sn, fl, bk, ep, tp, tl⟩ W st := pre_of hb ck
  have kk := step_k hb ck (by omega)
  dsimp only at kk
  rw [hst] at kk
  obtain ⟨⟨rm', lg', key', ph', seq', j', fd', hd', tm', er', pl', sn', fl', bk', ep', tp', tl'⟩, W', kd', wd', vl', ch'⟩ := r
  obtain rfl : rm' = false := kk.rm
  obtain rfl : key' = key := kk.key
  dsimp only [evS] at e0 hz
  skip
  refine ⟨⟨T, R, sfT T R key', false, false, ⟨false, lg, key', ph, seq, j0, fd, hd, tm, er, pl, sn, fl, bk, ep, tp, tl⟩, ⟨⟨false, lg', key', ph', seq', j', fd', hd', tm', er', pl', sn', fl', bk', ep', tp', tl'⟩, W', kd', wd', vl', ch'⟩⟩, ?_⟩
  have hX := hXTu ⟨T, R, sfT T R key', false, false, ⟨false, lg, key', ph, seq, j0, fd, hd, tm, er, pl, sn, fl, bk, ep, tp, tl⟩, ⟨⟨false, lg', key', ph', seq', j', fd', hd', tm', er', pl', sn', fl', bk', ep', tp', tl'⟩, W', kd', wd', vl', ch'⟩⟩
  have J := J ⟨T, R, sfT T R key', false, false, ⟨false, lg, key', ph, seq, j0, fd, hd, tm, er, pl, sn, fl, bk, ep, tp, tl⟩, ⟨⟨false, lg', key', ph', seq', j', fd', hd', tm', er', pl', sn', fl', bk', ep', tp', tl'⟩, W', kd', wd', vl', ch'⟩⟩ ⟨i + 1, ⟨W', st + 1, kd', wd', vl', ch', some ⟨false, lg', key', ph', seq', j', fd', hd', tm', er', pl', sn', fl', bk', ep', tp', tl'⟩, c1, c2, p0, p1, p2, key', k1, k2⟩, L⟩ hz rfl
  dsimp only [umT, umH, tqH] at J
  skip
  skip
  dsimp only [UK, umK, umH, tqH]
  refine sx hX [] 4000 rfl (by (simp [-List.getD_eq_getElem?_getD, -List.length_eq_zero_iff, conjP, hP, hst, ruC, cond_false])) ?_
  refine sx hX [.F] 4000 rfl (by (simp [-List.getD_eq_getElem?_getD, -List.length_eq_zero_iff, conjP, addOP, e0])) ?_
  (refine J _ _ _ (sub_of [0, 1, 2, 3, 4, 5, 6, 7, 8, 9, 10, 11, 12, 13, 14, 15] rfl rfl rfl rfl ?tt ?hh ?ot ?ok); (case tt => simp only [ewi]; exact clhU); (case hh => exact clhU); (case ot => exact clkU); (case ok => exact clkU))
set_option maxHeartbeats 4000000 in
theorem ut0cdnt (h : UInv T R N x) (hs : x.i < min N 200 + 120) (hk : x.i < min N 200 ∨ x.i % 4 = 0) {lg : Bool} {key : Int} {ph : Nat} {seq : Int} {j0 : Nat} {fd : Int} {hd : Bool} {tm er pl sn fl bk ep tp : Int} {tl : Bool} (hc : x.z.c0 = some ⟨false, lg, key, ph, seq, j0, fd, hd, tm, er, pl, sn, fl, bk, ep, tp, tl⟩) {r : TR} (hst : tStep T R (sfT T R key) ⟨false, lg, key, ph, seq, j0, fd, hd, tm, er, pl, sn, fl, bk, ep, tp, tl⟩ x.z.W x.z.st = r) (e0 : r.s.ph = 0) (e1 : r.s.er = 0) (hL : x.L = [])
    (J : ∀ p, UJ p T R N cap o x ρ w I) : ∃ p, UK p 0 T R N cap o x ρ w I := by
  have hz := um_d0 h hs hk hc hst e0
  have hb := h.b
  have ck := h.c0
  have hk0 := h.k0
  have hll : x.L.length ≤ 320 := by have := h.hl; omega
  have F := h.facts (by omega)
  obtain ⟨i, ⟨W, st, kd, wd, vl, ch, c0, c1, c2, p0, p1, p2, k0, k1, k2⟩, L⟩ := x
  dsimp only at hc hst hk hs F hz hb ck hk0 hll hL
  subst hc
  obtain rfl : key = k0 := hk0
  obtain ⟨hi320, ewi, t1, t4, r1, r8, hl, s0, s1, hw⟩ := F
  have hr := right_TR t1 t4 r1 r8
  have hP : TPre T R (sfT T R key) ⟨false, lg, key, ph, seq, j0, fd, hd, tm, er, pl, sn, fl, bk, ep, tp, tl⟩ W st := pre_of hb ck
  have kk := step_k hb ck (by omega)
  dsimp only at kk
  rw [hst] at kk
  obtain ⟨⟨rm', lg', key', ph', seq', j', fd', hd', tm', er', pl', sn', fl', bk', ep', tp', tl'⟩, W', kd', wd', vl', ch'⟩ := r
  obtain rfl : rm' = false := kk.rm
  obtain rfl : key' = key := kk.key
  dsimp only [evS] at e0 e1 hz
  subst e0
  subst e1
  subst hL
  simp only [Bool.false_eq_true, if_false] at hz
  refine ⟨⟨T, R, sfT T R key', false, true, ⟨false, lg, key', ph, seq, j0, fd, hd, tm, er, pl, sn, fl, bk, ep, tp, tl⟩, ⟨⟨false, lg', key', 0, seq', j', fd', hd', tm', 0, pl', sn', fl', bk', ep', tp', tl'⟩, W', kd', wd', vl', ch'⟩⟩, ?_⟩
  have hX := hXTu ⟨T, R, sfT T R key', false, true, ⟨false, lg, key', ph, seq, j0, fd, hd, tm, er, pl, sn, fl, bk, ep, tp, tl⟩, ⟨⟨false, lg', key', 0, seq', j', fd', hd', tm', 0, pl', sn', fl', bk', ep', tp', tl'⟩, W', kd', wd', vl', ch'⟩⟩
  have J := J ⟨T, R, sfT T R key', false, true, ⟨false, lg, key', ph, seq, j0, fd, hd, tm, er, pl, sn, fl, bk, ep, tp, tl⟩, ⟨⟨false, lg', key', 0, seq', j', fd', hd', tm', 0, pl', sn', fl', bk', ep', tp', tl'⟩, W', kd', wd', vl', ch'⟩⟩ ⟨i + 1, ⟨W', st + 1, kd', wd', vl', ch', none, c1, c2, p0, p1, p2, key', k1, k2⟩, [] ++ [⟨tm', key', 0, 0⟩]⟩ hz rfl
  dsimp only [umT, umH, tqH] at J
  rw [lgV_app, lgE_app] at J
  have tsz : ((XTu ⟨T, R, sfT T R key', false, true, ⟨false, lg, key', ph, seq, j0, fd, hd, tm, er, pl, sn, fl, bk, ep, tp, tl⟩, ⟨⟨false, lg', key', 0, seq', j', fd', hd', tm', 0, pl', sn', fl', bk', ep', tp', tl'⟩, W', kd', wd', vl', ch'⟩⟩).TE 114).size = 4 := rfl
  dsimp only [UK, umK, umH, tqH]
  refine sx hX [] 4000 rfl (by (simp [-List.getD_eq_getElem?_getD, -List.length_eq_zero_iff, conjP, hP, hst, ruC, cond_false])) ?_
  refine sx hX [.T] 4000 rfl (by (simp [-List.getD_eq_getElem?_getD, -List.length_eq_zero_iff, conjP, getH, HE.so, tsz, ruC, cond_false])) ?_
  (refine J _ _ _ (sub_of [0, 1, 2, 3, 4, 5, 6, 7, 8, 9, 10, 11, 12, 13, 14, 18] rfl rfl rfl rfl ?tt ?hh ?ot ?ok); (case tt => simp only [ewi]; exact clhU); (case hh => exact clhU); (case ot => exact clkU); (case ok => exact clkU))
set_option maxHeartbeats 4000000 in
theorem ut0cdnf (h : UInv T R N x) (hs : x.i < min N 200 + 120) (hk : x.i < min N 200 ∨ x.i % 4 = 0) {lg : Bool} {key : Int} {ph : Nat} {seq : Int} {j0 : Nat} {fd : Int} {hd : Bool} {tm er pl sn fl bk ep tp : Int} {tl : Bool} (hc : x.z.c0 = some ⟨false, lg, key, ph, seq, j0, fd, hd, tm, er, pl, sn, fl, bk, ep, tp, tl⟩) {r : TR} (hst : tStep T R (sfT T R key) ⟨false, lg, key, ph, seq, j0, fd, hd, tm, er, pl, sn, fl, bk, ep, tp, tl⟩ x.z.W x.z.st = r) (e0 : r.s.ph = 0) (e1 : ¬ r.s.er = 0) (hL : x.L = [])
    (J : ∀ p, UJ p T R N cap o x ρ w I) : ∃ p, UK p 0 T R N cap o x ρ w I := by
  have hz := um_d0 h hs hk hc hst e0
  have hb := h.b
  have ck := h.c0
  have hk0 := h.k0
  have hll : x.L.length ≤ 320 := by have := h.hl; omega
  have F := h.facts (by omega)
  obtain ⟨i, ⟨W, st, kd, wd, vl, ch, c0, c1, c2, p0, p1, p2, k0, k1, k2⟩, L⟩ := x
  dsimp only at hc hst hk hs F hz hb ck hk0 hll hL
  subst hc
  obtain rfl : key = k0 := hk0
  obtain ⟨hi320, ewi, t1, t4, r1, r8, hl, s0, s1, hw⟩ := F
  have hr := right_TR t1 t4 r1 r8
  have hP : TPre T R (sfT T R key) ⟨false, lg, key, ph, seq, j0, fd, hd, tm, er, pl, sn, fl, bk, ep, tp, tl⟩ W st := pre_of hb ck
  have kk := step_k hb ck (by omega)
  dsimp only at kk
  rw [hst] at kk
  obtain ⟨⟨rm', lg', key', ph', seq', j', fd', hd', tm', er', pl', sn', fl', bk', ep', tp', tl'⟩, W', kd', wd', vl', ch'⟩ := r
  obtain rfl : rm' = false := kk.rm
  obtain rfl : key' = key := kk.key
  dsimp only [evS] at e0 e1 hz
  subst e0
  subst hL
  simp only [Bool.false_eq_true, if_false] at hz
  refine ⟨⟨T, R, sfT T R key', false, false, ⟨false, lg, key', ph, seq, j0, fd, hd, tm, er, pl, sn, fl, bk, ep, tp, tl⟩, ⟨⟨false, lg', key', 0, seq', j', fd', hd', tm', er', pl', sn', fl', bk', ep', tp', tl'⟩, W', kd', wd', vl', ch'⟩⟩, ?_⟩
  have hX := hXTu ⟨T, R, sfT T R key', false, false, ⟨false, lg, key', ph, seq, j0, fd, hd, tm, er, pl, sn, fl, bk, ep, tp, tl⟩, ⟨⟨false, lg', key', 0, seq', j', fd', hd', tm', er', pl', sn', fl', bk', ep', tp', tl'⟩, W', kd', wd', vl', ch'⟩⟩
  have J := J ⟨T, R, sfT T R key', false, false, ⟨false, lg, key', ph, seq, j0, fd, hd, tm, er, pl, sn, fl, bk, ep, tp, tl⟩, ⟨⟨false, lg', key', 0, seq', j', fd', hd', tm', er', pl', sn', fl', bk', ep', tp', tl'⟩, W', kd', wd', vl', ch'⟩⟩ ⟨i + 1, ⟨W', st + 1, kd', wd', vl', ch', none, c1, c2, p0, p1, p2, key', k1, k2⟩, [] ++ [⟨tm', key', 0, er'⟩]⟩ hz rfl
  dsimp only [umT, umH, tqH] at J
  rw [lgV_app, lgE_app] at J
  have tsz : ((XTu ⟨T, R, sfT T R key', false, false, ⟨false, lg, key', ph, seq, j0, fd, hd, tm, er, pl, sn, fl, bk, ep, tp, tl⟩, ⟨⟨false, lg', key', 0, seq', j', fd', hd', tm', er', pl', sn', fl', bk', ep', tp', tl'⟩, W', kd', wd', vl', ch'⟩⟩).TE 114).size = 4 := rfl
  dsimp only [UK, umK, umH, tqH]
  refine sx hX [] 4000 rfl (by (simp [-List.getD_eq_getElem?_getD, -List.length_eq_zero_iff, conjP, hP, hst, ruC, cond_false])) ?_
  refine sx hX [.T] 4000 rfl (by (simp [-List.getD_eq_getElem?_getD, -List.length_eq_zero_iff, conjP, getH, HE.so, tsz, e1, ruC, cond_false])) ?_
  (refine J _ _ _ (sub_of [0, 1, 2, 3, 4, 5, 6, 7, 8, 9, 10, 11, 12, 13, 14, 18] rfl rfl rfl rfl ?tt ?hh ?ot ?ok); (case tt => simp only [ewi]; exact clhU); (case hh => exact clhU); (case ot => exact clkU); (case ok => exact clkU))
set_option maxHeartbeats 4000000 in
theorem ut0cdst (h : UInv T R N x) (hs : x.i < min N 200 + 120) (hk : x.i < min N 200 ∨ x.i % 4 = 0) {lg : Bool} {key : Int} {ph : Nat} {seq : Int} {j0 : Nat} {fd : Int} {hd : Bool} {tm er pl sn fl bk ep tp : Int} {tl : Bool} (hc : x.z.c0 = some ⟨false, lg, key, ph, seq, j0, fd, hd, tm, er, pl, sn, fl, bk, ep, tp, tl⟩) {r : TR} (hst : tStep T R (sfT T R key) ⟨false, lg, key, ph, seq, j0, fd, hd, tm, er, pl, sn, fl, bk, ep, tp, tl⟩ x.z.W x.z.st = r) (e0 : r.s.ph = 0) (e1 : r.s.er = 0) (hL : x.L ≠ [])
    (J : ∀ p, UJ p T R N cap o x ρ w I) : ∃ p, UK p 0 T R N cap o x ρ w I := by
  have hz := um_d0 h hs hk hc hst e0
  have hb := h.b
  have ck := h.c0
  have hk0 := h.k0
  have hll : x.L.length ≤ 320 := by have := h.hl; omega
  have F := h.facts (by omega)
  obtain ⟨i, ⟨W, st, kd, wd, vl, ch, c0, c1, c2, p0, p1, p2, k0, k1, k2⟩, L⟩ := x
  dsimp only at hc hst hk hs F hz hb ck hk0 hll hL
  subst hc
  obtain rfl : key = k0 := hk0
  obtain ⟨hi320, ewi, t1, t4, r1, r8, hl, s0, s1, hw⟩ := F
  have hr := right_TR t1 t4 r1 r8
  have hP : TPre T R (sfT T R key) ⟨false, lg, key, ph, seq, j0, fd, hd, tm, er, pl, sn, fl, bk, ep, tp, tl⟩ W st := pre_of hb ck
  have kk := step_k hb ck (by omega)
  dsimp only at kk
  rw [hst] at kk
  obtain ⟨⟨rm', lg', key', ph', seq', j', fd', hd', tm', er', pl', sn', fl', bk', ep', tp', tl'⟩, W', kd', wd', vl', ch'⟩ := r
  obtain rfl : rm' = false := kk.rm
  obtain rfl : key' = key := kk.key
  dsimp only [evS] at e0 e1 hz
  subst e0
  subst e1
  obtain ⟨g1, g2⟩ := lg_some (h := 15) hL
  have hfl := flE_len (l := L)
  simp only [Bool.false_eq_true, if_false] at hz
  refine ⟨⟨T, R, sfT T R key', false, true, ⟨false, lg, key', ph, seq, j0, fd, hd, tm, er, pl, sn, fl, bk, ep, tp, tl⟩, ⟨⟨false, lg', key', 0, seq', j', fd', hd', tm', 0, pl', sn', fl', bk', ep', tp', tl'⟩, W', kd', wd', vl', ch'⟩⟩, ?_⟩
  have hX := hXTu ⟨T, R, sfT T R key', false, true, ⟨false, lg, key', ph, seq, j0, fd, hd, tm, er, pl, sn, fl, bk, ep, tp, tl⟩, ⟨⟨false, lg', key', 0, seq', j', fd', hd', tm', 0, pl', sn', fl', bk', ep', tp', tl'⟩, W', kd', wd', vl', ch'⟩⟩
  have J := J ⟨T, R, sfT T R key', false, true, ⟨false, lg, key', ph, seq, j0, fd, hd, tm, er, pl, sn, fl, bk, ep, tp, tl⟩, ⟨⟨false, lg', key', 0, seq', j', fd', hd', tm', 0, pl', sn', fl', bk', ep', tp', tl'⟩, W', kd', wd', vl', ch'⟩⟩ ⟨i + 1, ⟨W', st + 1, kd', wd', vl', ch', none, c1, c2, p0, p1, p2, key', k1, k2⟩, L ++ [⟨tm', key', 0, 0⟩]⟩ hz rfl
  dsimp only [umT, umH, tqH] at J
  rw [lgV_app, lgE_app] at J
  have tsz : ((XTu ⟨T, R, sfT T R key', false, true, ⟨false, lg, key', ph, seq, j0, fd, hd, tm, er, pl, sn, fl, bk, ep, tp, tl⟩, ⟨⟨false, lg', key', 0, seq', j', fd', hd', tm', 0, pl', sn', fl', bk', ep', tp', tl'⟩, W', kd', wd', vl', ch'⟩⟩).TE 114).size = 4 := rfl
  dsimp only [UK, umK, umH, tqH]
  rw [g1, g2]
  refine sx hX [] 4000 rfl (by (simp [-List.getD_eq_getElem?_getD, -List.length_eq_zero_iff, conjP, hP, hst, ruC, cond_false])) ?_
  refine sx hX [.T] 4000 rfl (by (simp [-List.getD_eq_getElem?_getD, -List.length_eq_zero_iff, conjP, getH, HE.so, tsz, hfl, ruC, cond_false] <;> (first | omega | ((repeat' (refine And.intro ?_ ?_)) <;> (first | omega | exact decide_eq_false (by omega) | exact decide_eq_true (by omega)))))) ?_
  (refine J _ _ _ (sub_of [0, 1, 2, 3, 4, 5, 6, 7, 8, 9, 10, 11, 12, 13, 14, 18] rfl rfl rfl rfl ?tt ?hh ?ot ?ok); (case tt => simp only [ewi]; exact clhU); (case hh => exact clhU); (case ot => exact clkU); (case ok => exact clkU))
set_option maxHeartbeats 4000000 in
theorem ut0cdsf (h : UInv T R N x) (hs : x.i < min N 200 + 120) (hk : x.i < min N 200 ∨ x.i % 4 = 0) {lg : Bool} {key : Int} {ph : Nat} {seq : Int} {j0 : Nat} {fd : Int} {hd : Bool} {tm er pl sn fl bk ep tp : Int} {tl : Bool} (hc : x.z.c0 = some ⟨false, lg, key, ph, seq, j0, fd, hd, tm, er, pl, sn, fl, bk, ep, tp, tl⟩) {r : TR} (hst : tStep T R (sfT T R key) ⟨false, lg, key, ph, seq, j0, fd, hd, tm, er, pl, sn, fl, bk, ep, tp, tl⟩ x.z.W x.z.st = r) (e0 : r.s.ph = 0) (e1 : ¬ r.s.er = 0) (hL : x.L ≠ [])
    (J : ∀ p, UJ p T R N cap o x ρ w I) : ∃ p, UK p 0 T R N cap o x ρ w I := by
  have hz := um_d0 h hs hk hc hst e0
  have hb := h.b
  have ck := h.c0
  have hk0 := h.k0
  have hll : x.L.length ≤ 320 := by have := h.hl; omega
  have F := h.facts (by omega)
  obtain ⟨i, ⟨W, st, kd, wd, vl, ch, c0, c1, c2, p0, p1, p2, k0, k1, k2⟩, L⟩ := x
  dsimp only at hc hst hk hs F hz hb ck hk0 hll hL
  subst hc
  obtain rfl : key = k0 := hk0
  obtain ⟨hi320, ewi, t1, t4, r1, r8, hl, s0, s1, hw⟩ := F
  have hr := right_TR t1 t4 r1 r8
  have hP : TPre T R (sfT T R key) ⟨false, lg, key, ph, seq, j0, fd, hd, tm, er, pl, sn, fl, bk, ep, tp, tl⟩ W st := pre_of hb ck
  have kk := step_k hb ck (by omega)
  dsimp only at kk
  rw [hst] at kk
  obtain ⟨⟨rm', lg', key', ph', seq', j', fd', hd', tm', er', pl', sn', fl', bk', ep', tp', tl'⟩, W', kd', wd', vl', ch'⟩ := r
  obtain rfl : rm' = false := kk.rm
  obtain rfl : key' = key := kk.key
  dsimp only [evS] at e0 e1 hz
  subst e0
  obtain ⟨g1, g2⟩ := lg_some (h := 15) hL
  have hfl := flE_len (l := L)
  simp only [Bool.false_eq_true, if_false] at hz
  refine ⟨⟨T, R, sfT T R key', false, false, ⟨false, lg, key', ph, seq, j0, fd, hd, tm, er, pl, sn, fl, bk, ep, tp, tl⟩, ⟨⟨false, lg', key', 0, seq', j', fd', hd', tm', er', pl', sn', fl', bk', ep', tp', tl'⟩, W', kd', wd', vl', ch'⟩⟩, ?_⟩
  have hX := hXTu ⟨T, R, sfT T R key', false, false, ⟨false, lg, key', ph, seq, j0, fd, hd, tm, er, pl, sn, fl, bk, ep, tp, tl⟩, ⟨⟨false, lg', key', 0, seq', j', fd', hd', tm', er', pl', sn', fl', bk', ep', tp', tl'⟩, W', kd', wd', vl', ch'⟩⟩
  have J := J ⟨T, R, sfT T R key', false, false, ⟨false, lg, key', ph, seq, j0, fd, hd, tm, er, pl, sn, fl, bk, ep, tp, tl⟩, ⟨⟨false, lg', key', 0, seq', j', fd', hd', tm', er', pl', sn', fl', bk', ep', tp', tl'⟩, W', kd', wd', vl', ch'⟩⟩ ⟨i + 1, ⟨W', st + 1, kd', wd', vl', ch', none, c1, c2, p0, p1, p2, key', k1, k2⟩, L ++ [⟨tm', key', 0, er'⟩]⟩ hz rfl
  dsimp only [umT, umH, tqH] at J
  rw [lgV_app, lgE_app] at J
  have tsz : ((XTu ⟨T, R, sfT T R key', false, false, ⟨false, lg, key', ph, seq, j0, fd, hd, tm, er, pl, sn, fl, bk, ep, tp, tl⟩, ⟨⟨false, lg', key', 0, seq', j', fd', hd', tm', er', pl', sn', fl', bk', ep', tp', tl'⟩, W', kd', wd', vl', ch'⟩⟩).TE 114).size = 4 := rfl
  dsimp only [UK, umK, umH, tqH]
  rw [g1, g2]
  refine sx hX [] 4000 rfl (by (simp [-List.getD_eq_getElem?_getD, -List.length_eq_zero_iff, conjP, hP, hst, ruC, cond_false])) ?_
  refine sx hX [.T] 4000 rfl (by (simp [-List.getD_eq_getElem?_getD, -List.length_eq_zero_iff, conjP, getH, HE.so, tsz, hfl, e1, ruC, cond_false] <;> (first | omega | ((repeat' (refine And.intro ?_ ?_)) <;> (first | omega | exact decide_eq_false (by omega) | exact decide_eq_true (by omega)))))) ?_
  (refine J _ _ _ (sub_of [0, 1, 2, 3, 4, 5, 6, 7, 8, 9, 10, 11, 12, 13, 14, 18] rfl rfl rfl rfl ?tt ?hh ?ot ?ok); (case tt => simp only [ewi]; exact clhU); (case hh => exact clhU); (case ot => exact clkU); (case ok => exact clkU))
set_option maxHeartbeats 4000000 in
theorem ut0rn (h : UInv T R N x) (hs : x.i < min N 200 + 120) (hk : x.i < min N 200 ∨ x.i % 4 = 0) {lg : Bool} {key : Int} {ph : Nat} {seq : Int} {j0 : Nat} {fd : Int} {hd : Bool} {tm er pl sn fl bk ep tp : Int} {tl : Bool} (hc : x.z.c0 = some ⟨true, lg, key, ph, seq, j0, fd, hd, tm, er, pl, sn, fl, bk, ep, tp, tl⟩) {r : TR} (hst : tStep T R (sfT T R key) ⟨true, lg, key, ph, seq, j0, fd, hd, tm, er, pl, sn, fl, bk, ep, tp, tl⟩ x.z.W x.z.st = r) (e0 : ¬ r.s.ph = 0)
    (J : ∀ p, UJ p T R N cap o x ρ w I) : ∃ p, UK p 0 T R N cap o x ρ w I := by
  have hz := um_n0 h hs hk hc hst e0
  have hb := h.b
  have ck := h.c0
  have hk0 := h.k0
  have hll : x.L.length ≤ 320 := by have := h.hl; omega
  have F := h.facts (by omega)
  obtain ⟨i, ⟨W, st, kd, wd, vl, ch, c0, c1, c2, p0, p1, p2, k0, k1, k2⟩, L⟩ := x
  dsimp only at hc hst hk hs F hz hb ck hk0 hll
  subst hc
  obtain rfl : key = k0 := hk0
  obtain ⟨hi320, ewi, t1, t4, r1, r8, hl, s0, s1, hw⟩ := F
  have hr := right_TR t1 t4 r1 r8
  have hP : TPre T R (sfT T R key) ⟨true, lg, key, ph, seq, j0, fd, hd, tm, er, pl, sn, fl, bk, ep, tp, tl⟩ W st := pre_of hb ck
  have kk := step_k hb ck (by omega)
  dsimp only at kk
  rw [hst] at kk
  obtain ⟨⟨rm', lg', key', ph', seq', j', fd', hd', tm', er', pl', sn', fl', bk', ep', tp', tl'⟩, W', kd', wd', vl', ch'⟩ := r
  obtain rfl : rm' = true := kk.rm
  obtain rfl : key' = key := kk.key
  dsimp only [evS] at e0 hz
  skip
  refine ⟨⟨T, R, sfT T R key', false, false, ⟨true, lg, key', ph, seq, j0, fd, hd, tm, er, pl, sn, fl, bk, ep, tp, tl⟩, ⟨⟨true, lg', key', ph', seq', j', fd', hd', tm', er', pl', sn', fl', bk', ep', tp', tl'⟩, W', kd', wd', vl', ch'⟩⟩, ?_⟩
  have hX := hXTu ⟨T, R, sfT T R key', false, false, ⟨true, lg, key', ph, seq, j0, fd, hd, tm, er, pl, sn, fl, bk, ep, tp, tl⟩, ⟨⟨true, lg', key', ph', seq', j', fd', hd', tm', er', pl', sn', fl', bk', ep', tp', tl'⟩, W', kd', wd', vl', ch'⟩⟩
  have J := J ⟨T, R, sfT T R key', false, false, ⟨true, lg, key', ph, seq, j0, fd, hd, tm, er, pl, sn, fl, bk, ep, tp, tl⟩, ⟨⟨true, lg', key', ph', seq', j', fd', hd', tm', er', pl', sn', fl', bk', ep', tp', tl'⟩, W', kd', wd', vl', ch'⟩⟩ ⟨i + 1, ⟨W', st + 1, kd', wd', vl', ch', some ⟨true, lg', key', ph', seq', j', fd', hd', tm', er', pl', sn', fl', bk', ep', tp', tl'⟩, c1, c2, p0, p1, p2, key', k1, k2⟩, L⟩ hz rfl
  dsimp only [umT, umH, tqH] at J
  skip
  skip
  dsimp only [UK, umK, umH, tqH]
  refine sx hX [] 4000 rfl (by (simp [-List.getD_eq_getElem?_getD, -List.length_eq_zero_iff, conjP, hP, hst, ruC, cond_true])) ?_
  refine sx hX [.F] 4000 rfl (by (simp [-List.getD_eq_getElem?_getD, -List.length_eq_zero_iff, conjP, addOP, e0])) ?_
  (refine J _ _ _ (sub_of [0, 1, 2, 3, 4, 5, 6, 7, 8, 9, 10, 11, 12, 13, 14, 15] rfl rfl rfl rfl ?tt ?hh ?ot ?ok); (case tt => simp only [ewi]; exact clhU); (case hh => exact clhU); (case ot => exact clkU); (case ok => exact clkU))
set_option maxHeartbeats 4000000 in
theorem ut0rdnt (h : UInv T R N x) (hs : x.i < min N 200 + 120) (hk : x.i < min N 200 ∨ x.i % 4 = 0) {lg : Bool} {key : Int} {ph : Nat} {seq : Int} {j0 : Nat} {fd : Int} {hd : Bool} {tm er pl sn fl bk ep tp : Int} {tl : Bool} (hc : x.z.c0 = some ⟨true, lg, key, ph, seq, j0, fd, hd, tm, er, pl, sn, fl, bk, ep, tp, tl⟩) {r : TR} (hst : tStep T R (sfT T R key) ⟨true, lg, key, ph, seq, j0, fd, hd, tm, er, pl, sn, fl, bk, ep, tp, tl⟩ x.z.W x.z.st = r) (e0 : r.s.ph = 0) (e1 : r.s.er = 0) (hL : x.L = [])
    (J : ∀ p, UJ p T R N cap o x ρ w I) : ∃ p, UK p 0 T R N cap o x ρ w I := by
  have hz := um_d0 h hs hk hc hst e0
  have hb := h.b
  have ck := h.c0
  have hk0 := h.k0
  have hll : x.L.length ≤ 320 := by have := h.hl; omega
  have F := h.facts (by omega)
  obtain ⟨i, ⟨W, st, kd, wd, vl, ch, c0, c1, c2, p0, p1, p2, k0, k1, k2⟩, L⟩ := x
  dsimp only at hc hst hk hs F hz hb ck hk0 hll hL
  subst hc
  obtain rfl : key = k0 := hk0
  obtain ⟨hi320, ewi, t1, t4, r1, r8, hl, s0, s1, hw⟩ := F
  have hr := right_TR t1 t4 r1 r8
  have hP : TPre T R (sfT T R key) ⟨true, lg, key, ph, seq, j0, fd, hd, tm, er, pl, sn, fl, bk, ep, tp, tl⟩ W st := pre_of hb ck
  have kk := step_k hb ck (by omega)
  dsimp only at kk
  rw [hst] at kk
  obtain ⟨⟨rm', lg', key', ph', seq', j', fd', hd', tm', er', pl', sn', fl', bk', ep', tp', tl'⟩, W', kd', wd', vl', ch'⟩ := r
  obtain rfl : rm' = true := kk.rm
  obtain rfl : key' = key := kk.key
  dsimp only [evS] at e0 e1 hz
  subst e0
  subst e1
  subst hL
  simp only [if_true] at hz
  refine ⟨⟨T, R, sfT T R key', false, true, ⟨true, lg, key', ph, seq, j0, fd, hd, tm, er, pl, sn, fl, bk, ep, tp, tl⟩, ⟨⟨true, lg', key', 0, seq', j', fd', hd', tm', 0, pl', sn', fl', bk', ep', tp', tl'⟩, W', kd', wd', vl', ch'⟩⟩, ?_⟩
  have hX := hXTu ⟨T, R, sfT T R key', false, true, ⟨true, lg, key', ph, seq, j0, fd, hd, tm, er, pl, sn, fl, bk, ep, tp, tl⟩, ⟨⟨true, lg', key', 0, seq', j', fd', hd', tm', 0, pl', sn', fl', bk', ep', tp', tl'⟩, W', kd', wd', vl', ch'⟩⟩
  have J := J ⟨T, R, sfT T R key', false, true, ⟨true, lg, key', ph, seq, j0, fd, hd, tm, er, pl, sn, fl, bk, ep, tp, tl⟩, ⟨⟨true, lg', key', 0, seq', j', fd', hd', tm', 0, pl', sn', fl', bk', ep', tp', tl'⟩, W', kd', wd', vl', ch'⟩⟩ ⟨i + 1, ⟨W', st + 1, kd', wd', vl', ch', none, c1, c2, p0, p1, p2, key', k1, k2⟩, [] ++ [⟨tm', key', 1, 0⟩]⟩ hz rfl
  dsimp only [umT, umH, tqH] at J
  rw [lgV_app, lgE_app] at J
  have tsz : ((XTu ⟨T, R, sfT T R key', false, true, ⟨true, lg, key', ph, seq, j0, fd, hd, tm, er, pl, sn, fl, bk, ep, tp, tl⟩, ⟨⟨true, lg', key', 0, seq', j', fd', hd', tm', 0, pl', sn', fl', bk', ep', tp', tl'⟩, W', kd', wd', vl', ch'⟩⟩).TE 114).size = 4 := rfl
  dsimp only [UK, umK, umH, tqH]
  refine sx hX [] 4000 rfl (by (simp [-List.getD_eq_getElem?_getD, -List.length_eq_zero_iff, conjP, hP, hst, ruC, cond_true])) ?_
  refine sx hX [.T] 4000 rfl (by (simp [-List.getD_eq_getElem?_getD, -List.length_eq_zero_iff, conjP, getH, HE.so, tsz, ruC, cond_true])) ?_
  (refine J _ _ _ (sub_of [0, 1, 2, 3, 4, 5, 6, 7, 8, 9, 10, 11, 12, 13, 14, 17] rfl rfl rfl rfl ?tt ?hh ?ot ?ok); (case tt => simp only [ewi]; exact clhU); (case hh => exact clhU); (case ot => exact clkU); (case ok => exact clkU))
set_option maxHeartbeats 4000000 in
theorem ut0rdnf (h : UInv T R N x) (hs : x.i < min N 200 + 120) (hk : x.i < min N 200 ∨ x.i % 4 = 0) {lg : Bool} {key : Int} {ph : Nat} {seq : Int} {j0 : Nat} {fd : Int} {hd : Bool} {tm er pl sn fl bk ep tp : Int} {tl : Bool} (hc : x.z.c0 = some ⟨true, lg, key, ph, seq, j0, fd, hd, tm, er, pl, sn, fl, bk, ep, tp, tl⟩) {r : TR} (hst : tStep T R (sfT T R key) ⟨true, lg, key, ph, seq, j0, fd, hd, tm, er, pl, sn, fl, bk, ep, tp, tl⟩ x.z.W x.z.st = r) (e0 : r.s.ph = 0) (e1 : ¬ r.s.er = 0) (hL : x.L = [])
    (J : ∀ p, UJ p T R N cap o x ρ w I) : ∃ p, UK p 0 T R N cap o x ρ w I := by
  have hz := um_d0 h hs hk hc hst e0
  have hb := h.b
  have ck := h.c0
  have hk0 := h.k0
  have hll : x.L.length ≤ 320 := by have := h.hl; omega
  have F := h.facts (by omega)
  obtain ⟨i, ⟨W, st, kd, wd, vl, ch, c0, c1, c2, p0, p1, p2, k0, k1, k2⟩, L⟩ := x
  dsimp only at hc hst hk hs F hz hb ck hk0 hll hL
  subst hc
  obtain rfl : key = k0 := hk0
  obtain ⟨hi320, ewi, t1, t4, r1, r8, hl, s0, s1, hw⟩ := F
  have hr := right_TR t1 t4 r1 r8
  have hP : TPre T R (sfT T R key) ⟨true, lg, key, ph, seq, j0, fd, hd, tm, er, pl, sn, fl, bk, ep, tp, tl⟩ W st := pre_of hb ck
  have kk := step_k hb ck (by omega)
  dsimp only at kk
  rw [hst] at kk
  obtain ⟨⟨rm', lg', key', ph', seq', j', fd', hd', tm', er', pl', sn', fl', bk', ep', tp', tl'⟩, W', kd', wd', vl', ch'⟩ := r
  obtain rfl : rm' = true := kk.rm
  obtain rfl : key' = key := kk.key
  dsimp only [evS] at e0 e1 hz
  subst e0
  subst hL
  simp only [if_true] at hz
  refine ⟨⟨T, R, sfT T R key', false, false, ⟨true, lg, key', ph, seq, j0, fd, hd, tm, er, pl, sn, fl, bk, ep, tp, tl⟩, ⟨⟨true, lg', key', 0, seq', j', fd', hd', tm', er', pl', sn', fl', bk', ep', tp', tl'⟩, W', kd', wd', vl', ch'⟩⟩, ?_⟩
  have hX := hXTu ⟨T, R, sfT T R key', false, false, ⟨true, lg, key', ph, seq, j0, fd, hd, tm, er, pl, sn, fl, bk, ep, tp, tl⟩, ⟨⟨true, lg', key', 0, seq', j', fd', hd', tm', er', pl', sn', fl', bk', ep', tp', tl'⟩, W', kd', wd', vl', ch'⟩⟩
  have J := J ⟨T, R, sfT T R key', false, false, ⟨true, lg, key', ph, seq, j0, fd, hd, tm, er, pl, sn, fl, bk, ep, tp, tl⟩, ⟨⟨true, lg', key', 0, seq', j', fd', hd', tm', er', pl', sn', fl', bk', ep', tp', tl'⟩, W', kd', wd', vl', ch'⟩⟩ ⟨i + 1, ⟨W', st + 1, kd', wd', vl', ch', none, c1, c2, p0, p1, p2, key', k1, k2⟩, [] ++ [⟨tm', key', 1, er'⟩]⟩ hz rfl
  dsimp only [umT, umH, tqH] at J
  rw [lgV_app, lgE_app] at J
  have tsz : ((XTu ⟨T, R, sfT T R key', false, false, ⟨true, lg, key', ph, seq, j0, fd, hd, tm, er, pl, sn, fl, bk, ep, tp, tl⟩, ⟨⟨true, lg', key', 0, seq', j', fd', hd', tm', er', pl', sn', fl', bk', ep', tp', tl'⟩, W', kd', wd', vl', ch'⟩⟩).TE 114).size = 4 := rfl
  dsimp only [UK, umK, umH, tqH]
  refine sx hX [] 4000 rfl (by (simp [-List.getD_eq_getElem?_getD, -List.length_eq_zero_iff, conjP, hP, hst, ruC, cond_true])) ?_
  refine sx hX [.T] 4000 rfl (by (simp [-List.getD_eq_getElem?_getD, -List.length_eq_zero_iff, conjP, getH, HE.so, tsz, e1, ruC, cond_true])) ?_
  (refine J _ _ _ (sub_of [0, 1, 2, 3, 4, 5, 6, 7, 8, 9, 10, 11, 12, 13, 14, 17] rfl rfl rfl rfl ?tt ?hh ?ot ?ok); (case tt => simp only [ewi]; exact clhU); (case hh => exact clhU); (case ot => exact clkU); (case ok => exact clkU))
set_option maxHeartbeats 4000000 in
theorem ut0rdst (h : UInv T R N x) (hs : x.i < min N 200 + 120) (hk : x.i < min N 200 ∨ x.i % 4 = 0) {lg : Bool} {key : Int} {ph : Nat} {seq : Int} {j0 : Nat} {fd : Int} {hd : Bool} {tm er pl sn fl bk ep tp : Int} {tl : Bool} (hc : x.z.c0 = some ⟨true, lg, key, ph, seq, j0, fd, hd, tm, er, pl, sn, fl, bk, ep, tp, tl⟩) {r : TR} (hst : tStep T R (sfT T R key) ⟨true, lg, key, ph, seq, j0, fd, hd, tm, er, pl, sn, fl, bk, ep, tp, tl⟩ x.z.W x.z.st = r) (e0 : r.s.ph = 0) (e1 : r.s.er = 0) (hL : x.L ≠ [])
    (J : ∀ p, UJ p T R N cap o x ρ w I) : ∃ p, UK p 0 T R N cap o x ρ w I := by
  have hz := um_d0 h hs hk hc hst e0
  have hb := h.b
  have ck := h.c0
  have hk0 := h.k0
  have hll : x.L.length ≤ 320 := by have := h.hl; omega
  have F := h.facts (by omega)
  obtain ⟨i, ⟨W, st, kd, wd, vl, ch, c0, c1, c2, p0, p1, p2, k0, k1, k2⟩, L⟩ := x
  dsimp only at hc hst hk hs F hz hb ck hk0 hll hL
  subst hc
  obtain rfl : key = k0 := hk0
  obtain ⟨hi320, ewi, t1, t4, r1, r8, hl, s0, s1, hw⟩ := F
  have hr := right_TR t1 t4 r1 r8
  have hP : TPre T R (sfT T R key) ⟨true, lg, key, ph, seq, j0, fd, hd, tm, er, pl, sn, fl, bk, ep, tp, tl⟩ W st := pre_of hb ck
  have kk := step_k hb ck (by omega)
  dsimp only at kk
  rw [hst] at kk
  obtain ⟨⟨rm', lg', key', ph', seq', j', fd', hd', tm', er', pl', sn', fl', bk', ep', tp', tl'⟩, W', kd', wd', vl', ch'⟩ := r
  obtain rfl : rm' = true := kk.rm
  obtain rfl : key' = key := kk.key
  dsimp only [evS] at e0 e1 hz
  subst e0
  subst e1
  obtain ⟨g1, g2⟩ := lg_some (h := 15) hL
  have hfl := flE_len (l := L)
  simp only [if_true] at hz
  refine ⟨⟨T, R, sfT T R key', false, true, ⟨true, lg, key', ph, seq, j0, fd, hd, tm, er, pl, sn, fl, bk, ep, tp, tl⟩, ⟨⟨true, lg', key', 0, seq', j', fd', hd', tm', 0, pl', sn', fl', bk', ep', tp', tl'⟩, W', kd', wd', vl', ch'⟩⟩, ?_⟩
  have hX := hXTu ⟨T, R, sfT T R key', false, true, ⟨true, lg, key', ph, seq, j0, fd, hd, tm, er, pl, sn, fl, bk, ep, tp, tl⟩, ⟨⟨true, lg', key', 0, seq', j', fd', hd', tm', 0, pl', sn', fl', bk', ep', tp', tl'⟩, W', kd', wd', vl', ch'⟩⟩
  have J := J ⟨T, R, sfT T R key', false, true, ⟨true, lg, key', ph, seq, j0, fd, hd, tm, er, pl, sn, fl, bk, ep, tp, tl⟩, ⟨⟨true, lg', key', 0, seq', j', fd', hd', tm', 0, pl', sn', fl', bk', ep', tp', tl'⟩, W', kd', wd', vl', ch'⟩⟩ ⟨i + 1, ⟨W', st + 1, kd', wd', vl', ch', none, c1, c2, p0, p1, p2, key', k1, k2⟩, L ++ [⟨tm', key', 1, 0⟩]⟩ hz rfl
  dsimp only [umT, umH, tqH] at J
  rw [lgV_app, lgE_app] at J
  have tsz : ((XTu ⟨T, R, sfT T R key', false, true, ⟨true, lg, key', ph, seq, j0, fd, hd, tm, er, pl, sn, fl, bk, ep, tp, tl⟩, ⟨⟨true, lg', key', 0, seq', j', fd', hd', tm', 0, pl', sn', fl', bk', ep', tp', tl'⟩, W', kd', wd', vl', ch'⟩⟩).TE 114).size = 4 := rfl
  dsimp only [UK, umK, umH, tqH]
  rw [g1, g2]
  refine sx hX [] 4000 rfl (by (simp [-List.getD_eq_getElem?_getD, -List.length_eq_zero_iff, conjP, hP, hst, ruC, cond_true])) ?_
  refine sx hX [.T] 4000 rfl (by (simp [-List.getD_eq_getElem?_getD, -List.length_eq_zero_iff, conjP, getH, HE.so, tsz, hfl, ruC, cond_true] <;> (first | omega | ((repeat' (refine And.intro ?_ ?_)) <;> (first | omega | exact decide_eq_false (by omega) | exact decide_eq_true (by omega)))))) ?_
  (refine J _ _ _ (sub_of [0, 1, 2, 3, 4, 5, 6, 7, 8, 9, 10, 11, 12, 13, 14, 17] rfl rfl rfl rfl ?tt ?hh ?ot ?ok); (case tt => simp only [ewi]; exact clhU); (case hh => exact clhU); (case ot => exact clkU); (case ok => exact clkU))
set_option maxHeartbeats 4000000 in
theorem ut0rdsf (h : UInv T R N x) (hs : x.i < min N 200 + 120) (hk : x.i < min N 200 ∨ x.i % 4 = 0) {lg : Bool} {key : Int} {ph : Nat} {seq : Int} {j0 : Nat} {fd : Int} {hd : Bool} {tm er pl sn fl bk ep tp : Int} {tl : Bool} (hc : x.z.c0 = some ⟨true, lg, key, ph, seq, j0, fd, hd, tm, er, pl, sn, fl, bk, ep, tp, tl⟩) {r : TR} (hst : tStep T R (sfT T R key) ⟨true, lg, key, ph, seq, j0, fd, hd, tm, er, pl, sn, fl, bk, ep, tp, tl⟩ x.z.W x.z.st = r) (e0 : r.s.ph = 0) (e1 : ¬ r.s.er = 0) (hL : x.L ≠ [])
    (J : ∀ p, UJ p T R N cap o x ρ w I) : ∃ p, UK p 0 T R N cap o x ρ w I := by
  have hz := um_d0 h hs hk hc hst e0
  have hb := h.b
  have ck := h.c0
  have hk0 := h.k0
  have hll : x.L.length ≤ 320 := by have := h.hl; omega
  have F := h.facts (by omega)
  obtain ⟨i, ⟨W, st, kd, wd, vl, ch, c0, c1, c2, p0, p1, p2, k0, k1, k2⟩, L⟩ := x
  dsimp only at hc hst hk hs F hz hb ck hk0 hll hL
  subst hc
  obtain rfl : key = k0 := hk0
  obtain ⟨hi320, ewi, t1, t4, r1, r8, hl, s0, s1, hw⟩ := F
  have hr := right_TR t1 t4 r1 r8
  have hP : TPre T R (sfT T R key) ⟨true, lg, key, ph, seq, j0, fd, hd, tm, er, pl, sn, fl, bk, ep, tp, tl⟩ W st := pre_of hb ck
  have kk := step_k hb ck (by omega)
  dsimp only at kk
  rw [hst] at kk
  obtain ⟨⟨rm', lg', key', ph', seq', j', fd', hd', tm', er', pl', sn', fl', bk', ep', tp', tl'⟩, W', kd', wd', vl', ch'⟩ := r
  obtain rfl : rm' = true := kk.rm
  obtain rfl : key' = key := kk.key
  dsimp only [evS] at e0 e1 hz
  subst e0
  obtain ⟨g1, g2⟩ := lg_some (h := 15) hL
  have hfl := flE_len (l := L)
  simp only [if_true] at hz
  refine ⟨⟨T, R, sfT T R key', false, false, ⟨true, lg, key', ph, seq, j0, fd, hd, tm, er, pl, sn, fl, bk, ep, tp, tl⟩, ⟨⟨true, lg', key', 0, seq', j', fd', hd', tm', er', pl', sn', fl', bk', ep', tp', tl'⟩, W', kd', wd', vl', ch'⟩⟩, ?_⟩
  have hX := hXTu ⟨T, R, sfT T R key', false, false, ⟨true, lg, key', ph, seq, j0, fd, hd, tm, er, pl, sn, fl, bk, ep, tp, tl⟩, ⟨⟨true, lg', key', 0, seq', j', fd', hd', tm', er', pl', sn', fl', bk', ep', tp', tl'⟩, W', kd', wd', vl', ch'⟩⟩
  have J := J ⟨T, R, sfT T R key', false, false, ⟨true, lg, key', ph, seq, j0, fd, hd, tm, er, pl, sn, fl, bk, ep, tp, tl⟩, ⟨⟨true, lg', key', 0, seq', j', fd', hd', tm', er', pl', sn', fl', bk', ep', tp', tl'⟩, W', kd', wd', vl', ch'⟩⟩ ⟨i + 1, ⟨W', st + 1, kd', wd', vl', ch', none, c1, c2, p0, p1, p2, key', k1, k2⟩, L ++ [⟨tm', key', 1, er'⟩]⟩ hz rfl
  dsimp only [umT, umH, tqH] at J
  rw [lgV_app, lgE_app] at J
  have tsz : ((XTu ⟨T, R, sfT T R key', false, false, ⟨true, lg, key', ph, seq, j0, fd, hd, tm, er, pl, sn, fl, bk, ep, tp, tl⟩, ⟨⟨true, lg', key', 0, seq', j', fd', hd', tm', er', pl', sn', fl', bk', ep', tp', tl'⟩, W', kd', wd', vl', ch'⟩⟩).TE 114).size = 4 := rfl
  dsimp only [UK, umK, umH, tqH]
  rw [g1, g2]
  refine sx hX [] 4000 rfl (by (simp [-List.getD_eq_getElem?_getD, -List.length_eq_zero_iff, conjP, hP, hst, ruC, cond_true])) ?_
  refine sx hX [.T] 4000 rfl (by (simp [-List.getD_eq_getElem?_getD, -List.length_eq_zero_iff, conjP, getH, HE.so, tsz, hfl, e1, ruC, cond_true] <;> (first | omega | ((repeat' (refine And.intro ?_ ?_)) <;> (first | omega | exact decide_eq_false (by omega) | exact decide_eq_true (by omega)))))) ?_
  (refine J _ _ _ (sub_of [0, 1, 2, 3, 4, 5, 6, 7, 8, 9, 10, 11, 12, 13, 14, 17] rfl rfl rfl rfl ?tt ?hh ?ot ?ok); (case tt => simp only [ewi]; exact clhU); (case hh => exact clhU); (case ot => exact clkU); (case ok => exact clkU))
end
end Go.Proofs.YtkkddjchkkaagaaGreatDoor

/- TopicsMap: client 1 has its turn: its step. -/
namespace Go.Proofs.YtkkddjchkkaagaaGreatDoor
open Go Go.Hx
set_option maxRecDepth 8000
section
variable {T : Nat} {R : Int} {N cap : Nat} {o : Nat → Int × Int × Bool × Bool} {x : US} {ρ : Nat → Nat × Nat} {w : World} {I : Act → World → Prop}
set_option maxHeartbeats 4000000 in
theorem ut1cn (h : UInv T R N x) (hs : x.i < min N 200 + 120) (hk : x.i < min N 200 ∨ x.i % 4 = 1) {lg : Bool} {key : Int} {ph : Nat} {seq : Int} {j0 : Nat} {fd : Int} {hd : Bool} {tm er pl sn fl bk ep tp : Int} {tl : Bool} (hc : x.z.c1 = some ⟨false, lg, key, ph, seq, j0, fd, hd, tm, er, pl, sn, fl, bk, ep, tp, tl⟩) {r : TR} (hst : tStep T R (sfT T R key) ⟨false, lg, key, ph, seq, j0, fd, hd, tm, er, pl, sn, fl, bk, ep, tp, tl⟩ x.z.W x.z.st = r) (e0 : ¬ r.s.ph = 0)
    (J : ∀ p, UJ p T R N cap o x ρ w I) : ∃ p, UK p 1 T R N cap o x ρ w I := by
  have hz := um_n1 h hs hk hc hst e0
  have hb := h.b
  have ck := h.c1
  have hk0 := h.k1
  have hll : x.L.length ≤ 320 := by have := h.hl; omega
  have F := h.facts (by omega)
  obtain ⟨i, ⟨W, st, kd, wd, vl, ch, c0, c1, c2, p0, p1, p2, k0, k1, k2⟩, L⟩ := x
  dsimp only at hc hst hk hs F hz hb ck hk0 hll
  subst hc
  obtain rfl : key = k1 := hk0
  obtain ⟨hi320, ewi, t1, t4, r1, r8, hl, s0, s1, hw⟩ := F
  have hr := right_TR t1 t4 r1 r8
  have hP : TPre T R (sfT T R key) ⟨false, lg, key, ph, seq, j0, fd, hd, tm, er, pl, sn, fl, bk, ep, tp, tl⟩ W st := pre_of hb ck
  have kk := step_k hb ck (by omega)
  dsimp only at kk
  rw [hst] at kk
  obtain ⟨⟨rm', lg', key', ph', seq', j', fd', hd', tm', er', pl', sn', fl', bk', ep', tp', tl'⟩, W', kd', wd', vl', ch'⟩ := r
  obtain rfl : rm' = false := kk.rm
  obtain rfl : key' = key := kk.key
  dsimp only [evS] at e0 hz
  skip
  refine ⟨⟨T, R, sfT T R key', false, false, ⟨false, lg, key', ph, seq, j0, fd, hd, tm, er, pl, sn, fl, bk, ep, tp, tl⟩, ⟨⟨false, lg', key', ph', seq', j', fd', hd', tm', er', pl', sn', fl', bk', ep', tp', tl'⟩, W', kd', wd', vl', ch'⟩⟩, ?_⟩
  have hX := hXTu ⟨T, R, sfT T R key', false, false, ⟨false, lg, key', ph, seq, j0, fd, hd, tm, er, pl, sn, fl, bk, ep, tp, tl⟩, ⟨⟨false, lg', key', ph', seq', j', fd', hd', tm', er', pl', sn', fl', bk', ep', tp', tl'⟩, W', kd', wd', vl', ch'⟩⟩
  have J := J ⟨T, R, sfT T R key', false, false, ⟨false, lg, key', ph, seq, j0, fd, hd, tm, er, pl, sn, fl, bk, ep, tp, tl⟩, ⟨⟨false, lg', key', ph', seq', j', fd', hd', tm', er', pl', sn', fl', bk', ep', tp', tl'⟩, W', kd', wd', vl', ch'⟩⟩ ⟨i + 1, ⟨W', st + 1, kd', wd', vl', ch', c0, some ⟨false, lg', key', ph', seq', j', fd', hd', tm', er', pl', sn', fl', bk', ep', tp', tl'⟩, c2, p0, p1, p2, k0, key', k2⟩, L⟩ hz rfl
  dsimp only [umT, umH, tqH] at J
  skip
  skip
  dsimp only [UK, umK, umH, tqH]
  refine sx hX [] 4000 rfl (by (simp [-List.getD_eq_getElem?_getD, -List.length_eq_zero_iff, conjP, hP, hst, ruC, cond_false])) ?_
  refine sx hX [.F] 4000 rfl (by (simp [-List.getD_eq_getElem?_getD, -List.length_eq_zero_iff, conjP, addOP, e0])) ?_
  (refine J _ _ _ (sub_of [0, 1, 2, 3, 4, 5, 6, 7, 8, 9, 10, 11, 12, 13, 14, 15] rfl rfl rfl rfl ?tt ?hh ?ot ?ok); (case tt => simp only [ewi]; exact clhU); (case hh => exact clhU); (case ot => exact clkU); (case ok => exact clkU))
set_option maxHeartbeats 4000000 in
theorem ut1cdnt (h : UInv T R N x) (hs : x.i < min N 200 + 120) (hk : x.i < min N 200 ∨ x.i % 4 = 1) {lg : Bool} {key : Int} {ph : Nat} {seq : Int} {j0 : Nat} {fd : Int} {hd : Bool} {tm er pl sn fl bk ep tp : Int} {tl : Bool} (hc : x.z.c1 = some ⟨false, lg, key, ph, seq, j0, fd, hd, tm, er, pl, sn, fl, bk, ep, tp, tl⟩) {r : TR} (hst : tStep T R (sfT T R key) ⟨false, lg, key, ph, seq, j0, fd, hd, tm, er, pl, sn, fl, bk, ep, tp, tl⟩ x.z.W x.z.st = r) (e0 : r.s.ph = 0) (e1 : r.s.er = 0) (hL : x.L = [])
    (J : ∀ p, UJ p T R N cap o x ρ w I) : ∃ p, UK p 1 T R N cap o x ρ w I := by
  have hz := um_d1 h hs hk hc hst e0
  have hb := h.b
  have ck := h.c1
  have hk0 := h.k1
  have hll : x.L.length ≤ 320 := by have := h.hl; omega
  have F := h.facts (by omega)
  obtain ⟨i, ⟨W, st, kd, wd, vl, ch, c0, c1, c2, p0, p1, p2, k0, k1, k2⟩, L⟩ := x
  dsimp only at hc hst hk hs F hz hb ck hk0 hll hL
  subst hc
  obtain rfl : key = k1 := hk0
  obtain ⟨hi320, ewi, t1, t4, r1, r8, hl, s0, s1, hw⟩ := F
  have hr := right_TR t1 t4 r1 r8
  have hP : TPre T R (sfT T R key) ⟨false, lg, key, ph, seq, j0, fd, hd, tm, er, pl, sn, fl, bk, ep, tp, tl⟩ W st := pre_of hb ck
  have kk := step_k hb ck (by omega)
  dsimp only at kk
  rw [hst] at kk
  obtain ⟨⟨rm', lg', key', ph', seq', j', fd', hd', tm', er', pl', sn', fl', bk', ep', tp', tl'⟩, W', kd', wd', vl', ch'⟩ := r
  obtain rfl : rm' = false := kk.rm
  obtain rfl : key' = key := kk.key
  dsimp only [evS] at e0 e1 hz
  subst e0
  subst e1
  subst hL
  simp only [Bool.false_eq_true, if_false] at hz
  refine ⟨⟨T, R, sfT T R key', false, true, ⟨false, lg, key', ph, seq, j0, fd, hd, tm, er, pl, sn, fl, bk, ep, tp, tl⟩, ⟨⟨false, lg', key', 0, seq', j', fd', hd', tm', 0, pl', sn', fl', bk', ep', tp', tl'⟩, W', kd', wd', vl', ch'⟩⟩, ?_⟩
  have hX := hXTu ⟨T, R, sfT T R key', false, true, ⟨false, lg, key', ph, seq, j0, fd, hd, tm, er, pl, sn, fl, bk, ep, tp, tl⟩, ⟨⟨false, lg', key', 0, seq', j', fd', hd', tm', 0, pl', sn', fl', bk', ep', tp', tl'⟩, W', kd', wd', vl', ch'⟩⟩
  have J := J ⟨T, R, sfT T R key', false, true, ⟨false, lg, key', ph, seq, j0, fd, hd, tm, er, pl, sn, fl, bk, ep, tp, tl⟩, ⟨⟨false, lg', key', 0, seq', j', fd', hd', tm', 0, pl', sn', fl', bk', ep', tp', tl'⟩, W', kd', wd', vl', ch'⟩⟩ ⟨i + 1, ⟨W', st + 1, kd', wd', vl', ch', c0, none, c2, p0, p1, p2, k0, key', k2⟩, [] ++ [⟨tm', key', 0, 0⟩]⟩ hz rfl
  dsimp only [umT, umH, tqH] at J
  rw [lgV_app, lgE_app] at J
  have tsz : ((XTu ⟨T, R, sfT T R key', false, true, ⟨false, lg, key', ph, seq, j0, fd, hd, tm, er, pl, sn, fl, bk, ep, tp, tl⟩, ⟨⟨false, lg', key', 0, seq', j', fd', hd', tm', 0, pl', sn', fl', bk', ep', tp', tl'⟩, W', kd', wd', vl', ch'⟩⟩).TE 114).size = 4 := rfl
  dsimp only [UK, umK, umH, tqH]
  refine sx hX [] 4000 rfl (by (simp [-List.getD_eq_getElem?_getD, -List.length_eq_zero_iff, conjP, hP, hst, ruC, cond_false])) ?_
  refine sx hX [.T] 4000 rfl (by (simp [-List.getD_eq_getElem?_getD, -List.length_eq_zero_iff, conjP, getH, HE.so, tsz, ruC, cond_false])) ?_
  (refine J _ _ _ (sub_of [0, 1, 2, 3, 4, 5, 6, 7, 8, 9, 10, 11, 12, 13, 14, 18] rfl rfl rfl rfl ?tt ?hh ?ot ?ok); (case tt => simp only [ewi]; exact clhU); (case hh => exact clhU); (case ot => exact clkU); (case ok => exact clkU))
set_option maxHeartbeats 4000000 in
theorem ut1cdnf (h : UInv T R N x) (hs : x.i < min N 200 + 120) (hk : x.i < min N 200 ∨ x.i % 4 = 1) {lg : Bool} {key : Int} {ph : Nat} {seq : Int} {j0 : Nat} {fd : Int} {hd : Bool} {tm er pl sn fl bk ep tp : Int} {tl : Bool} (hc : x.z.c1 = some ⟨false, lg, key, ph, seq, j0, fd, hd, tm, er, pl, sn, fl, bk, ep, tp, tl⟩) {r : TR} (hst : tStep T R (sfT T R key) ⟨false, lg, key, ph, seq, j0, fd, hd, tm, er, pl, sn, fl, bk, ep, tp, tl⟩ x.z.W x.z.st = r) (e0 : r.s.ph = 0) (e1 : ¬ r.s.er = 0) (hL : x.L = [])
    (J : ∀ p, UJ p T R N cap o x ρ w I) : ∃ p, UK p 1 T R N cap o x ρ w I := by
  have hz := um_d1 h hs hk hc hst e0
  have hb := h.b
  have ck := h.c1
  have hk0 := h.k1
  have hll : x.L.length ≤ 320 := by have := h.hl; omega
  have F := h.facts (by omega)
  obtain ⟨i, ⟨W, st, kd, wd, vl, ch, c0, c1, c2, p0, p1, p2, k0, k1, k2⟩, L⟩ := x
  dsimp only at hc hst hk hs F hz hb ck hk0 hll hL
  subst hc
  obtain rfl : key = k1 := hk0
  obtain ⟨hi320, ewi, t1, t4, r1, r8, hl, s0, s1, hw⟩ := F
  have hr := right_TR t1 t4 r1 r8
  have hP : TPre T R (sfT T R key) ⟨false, lg, key, ph, seq, j0, fd, hd, tm, er, pl, sn, fl, bk, ep, tp, tl⟩ W st := pre_of hb ck
  have kk := step_k hb ck (by omega)
  dsimp only at kk
  rw [hst] at kk
  obtain ⟨⟨rm', lg', key', ph', seq', j', fd', hd', tm', er', pl', sn', fl', bk', ep', tp', tl'⟩, W', kd', wd', vl', ch'⟩ := r
  obtain rfl : rm' = false := kk.rm
  obtain rfl : key' = key := kk.key
  dsimp only [evS] at e0 e1 hz
  subst e0
  subst hL
  simp only [Bool.false_eq_true, if_false] at hz
  refine ⟨⟨T, R, sfT T R key', false, false, ⟨false, lg, key', ph, seq, j0, fd, hd, tm, er, pl, sn, fl, bk, ep, tp, tl⟩, ⟨⟨false, lg', key', 0, seq', j', fd', hd', tm', er', pl', sn', fl', bk', ep', tp', tl'⟩, W', kd', wd', vl', ch'⟩⟩, ?_⟩
  have hX := hXTu ⟨T, R, sfT T R key', false, false, ⟨false, lg, key', ph, seq, j0, fd, hd, tm, er, pl, sn, fl, bk, ep, tp, tl⟩, ⟨⟨false, lg', key', 0, seq', j', fd', hd', tm', er', pl', sn', fl', bk', ep', tp', tl'⟩, W', kd', wd', vl', ch'⟩⟩
  have J := J ⟨T, R, sfT T R key', false, false, ⟨false, lg, key', ph, seq, j0, fd, hd, tm, er, pl, sn, fl, bk, ep, tp, tl⟩, ⟨⟨false, lg', key', 0, seq', j', fd', hd', tm', er', pl', sn', fl', bk', ep', tp', tl'⟩, W', kd', wd', vl', ch'⟩⟩ ⟨i + 1, ⟨W', st + 1, kd', wd', vl', ch', c0, none, c2, p0, p1, p2, k0, key', k2⟩, [] ++ [⟨tm', key', 0, er'⟩]⟩ hz rfl
  dsimp only [umT, umH, tqH] at J
  rw [lgV_app, lgE_app] at J
  have tsz : ((XTu ⟨T, R, sfT T R key', false, false, ⟨false, lg, key', ph, seq, j0, fd, hd, tm, er, pl, sn, fl, bk, ep, tp, tl⟩, ⟨⟨false, lg', key', 0, seq', j', fd', hd', tm', er', pl', sn', fl', bk', ep', tp', tl'⟩, W', kd', wd', vl', ch'⟩⟩).TE 114).size = 4 := rfl
  dsimp only [UK, umK, umH, tqH]
  refine sx hX [] 4000 rfl (by (simp [-List.getD_eq_getElem?_getD, -List.length_eq_zero_iff, conjP, hP, hst, ruC, cond_false])) ?_
  refine sx hX [.T] 4000 rfl (by (simp [-List.getD_eq_getElem?_getD, -List.length_eq_zero_iff, conjP, getH, HE.so, tsz, e1, ruC, cond_false])) ?_
  (refine J _ _ _ (sub_of [0, 1, 2, 3, 4, 5, 6, 7, 8, 9, 10, 11, 12, 13, 14, 18] rfl rfl rfl rfl ?tt ?hh ?ot ?ok); (case tt => simp only [ewi]; exact clhU); (case hh => exact clhU); (case ot => exact clkU); (case ok => exact clkU))
set_option maxHeartbeats 4000000 in
theorem ut1cdst (h : UInv T R N x) (hs : x.i < min N 200 + 120) (hk : x.i < min N 200 ∨ x.i % 4 = 1) {lg : Bool} {key : Int} {ph : Nat} {seq : Int} {j0 : Nat} {fd : Int} {hd : Bool} {tm er pl sn fl bk ep tp : Int} {tl : Bool} (hc : x.z.c1 = some ⟨false, lg, key, ph, seq, j0, fd, hd, tm, er, pl, sn, fl, bk, ep, tp, tl⟩) {r : TR} (hst : tStep T R (sfT T R key) ⟨false, lg, key, ph, seq, j0, fd, hd, tm, er, pl, sn, fl, bk, ep, tp, tl⟩ x.z.W x.z.st = r) (e0 : r.s.ph = 0) (e1 : r.s.er = 0) (hL : x.L ≠ [])
    (J : ∀ p, UJ p T R N cap o x ρ w I) : ∃ p, UK p 1 T R N cap o x ρ w I := by
  have hz := um_d1 h hs hk hc hst e0
  have hb := h.b
  have ck := h.c1
  have hk0 := h.k1
  have hll : x.L.length ≤ 320 := by have := h.hl; omega
  have F := h.facts (by omega)
  obtain ⟨i, ⟨W, st, kd, wd, vl, ch, c0, c1, c2, p0, p1, p2, k0, k1, k2⟩, L⟩ := x
  dsimp only at hc hst hk hs F hz hb ck hk0 hll hL
  subst hc
  obtain rfl : key = k1 := hk0
  obtain ⟨hi320, ewi, t1, t4, r1, r8, hl, s0, s1, hw⟩ := F
  have hr := right_TR t1 t4 r1 r8
  have hP : TPre T R (sfT T R key) ⟨false, lg, key, ph, seq, j0, fd, hd, tm, er, pl, sn, fl, bk, ep, tp, tl⟩ W st := pre_of hb ck
  have kk := step_k hb ck (by omega)
  dsimp only at kk
  rw [hst] at kk
  obtain ⟨⟨rm', lg', key', ph', seq', j', fd', hd', tm', er', pl', sn', fl', bk', ep', tp', tl'⟩, W', kd', wd', vl', ch'⟩ := r
  obtain rfl : rm' = false := kk.rm
  obtain rfl : key' = key := kk.key
  dsimp only [evS] at e0 e1 hz
  subst e0
  subst e1
  obtain ⟨g1, g2⟩ := lg_some (h := 15) hL
  have hfl := flE_len (l := L)
  simp only [Bool.false_eq_true, if_false] at hz
  refine ⟨⟨T, R, sfT T R key', false, true, ⟨false, lg, key', ph, seq, j0, fd, hd, tm, er, pl, sn, fl, bk, ep, tp, tl⟩, ⟨⟨false, lg', key', 0, seq', j', fd', hd', tm', 0, pl', sn', fl', bk', ep', tp', tl'⟩, W', kd', wd', vl', ch'⟩⟩, ?_⟩
  have hX := hXTu ⟨T, R, sfT T R key', false, true, ⟨false, lg, key', ph, seq, j0, fd, hd, tm, er, pl, sn, fl, bk, ep, tp, tl⟩, ⟨⟨false, lg', key', 0, seq', j', fd', hd', tm', 0, pl', sn', fl', bk', ep', tp', tl'⟩, W', kd', wd', vl', ch'⟩⟩
  have J := J ⟨T, R, sfT T R key', false, true, ⟨false, lg, key', ph, seq, j0, fd, hd, tm, er, pl, sn, fl, bk, ep, tp, tl⟩, ⟨⟨false, lg', key', 0, seq', j', fd', hd', tm', 0, pl', sn', fl', bk', ep', tp', tl'⟩, W', kd', wd', vl', ch'⟩⟩ ⟨i + 1, ⟨W', st + 1, kd', wd', vl', ch', c0, none, c2, p0, p1, p2, k0, key', k2⟩, L ++ [⟨tm', key', 0, 0⟩]⟩ hz rfl
  dsimp only [umT, umH, tqH] at J
  rw [lgV_app, lgE_app] at J
  have tsz : ((XTu ⟨T, R, sfT T R key', false, true, ⟨false, lg, key', ph, seq, j0, fd, hd, tm, er, pl, sn, fl, bk, ep, tp, tl⟩, ⟨⟨false, lg', key', 0, seq', j', fd', hd', tm', 0, pl', sn', fl', bk', ep', tp', tl'⟩, W', kd', wd', vl', ch'⟩⟩).TE 114).size = 4 := rfl
  dsimp only [UK, umK, umH, tqH]
  rw [g1, g2]
  refine sx hX [] 4000 rfl (by (simp [-List.getD_eq_getElem?_getD, -List.length_eq_zero_iff, conjP, hP, hst, ruC, cond_false])) ?_
  refine sx hX [.T] 4000 rfl (by (simp [-List.getD_eq_getElem?_getD, -List.length_eq_zero_iff, conjP, getH, HE.so, tsz, hfl, ruC, cond_false] <;> (first | omega | ((repeat' (refine And.intro ?_ ?_)) <;> (first | omega | exact decide_eq_false (by omega) | exact decide_eq_true (by omega)))))) ?_
  (refine J _ _ _ (sub_of [0, 1, 2, 3, 4, 5, 6, 7, 8, 9, 10, 11, 12, 13, 14, 18] rfl rfl rfl rfl ?tt ?hh ?ot ?ok); (case tt => simp only [ewi]; exact clhU); (case hh => exact clhU); (case ot => exact clkU); (case ok => exact clkU))
set_option maxHeartbeats 4000000 in
theorem ut1cdsf (h : UInv T R N x) (hs : x.i < min N 200 + 120) (hk : x.i < min N 200 ∨ x.i % 4 = 1) {lg : Bool} {key : Int} {ph : Nat} {seq : Int} {j0 : Nat} {fd : Int} {hd : Bool} {tm er pl sn fl bk ep tp : Int} {tl : Bool} (hc : x.z.c1 = some ⟨false, lg, key, ph, seq, j0, fd, hd, tm, er, pl, sn, fl, bk, ep, tp, tl⟩) {r : TR} (hst : tStep T R (sfT T R key) ⟨false, lg, key, ph, seq, j0, fd, hd, tm, er, pl, sn, fl, bk, ep, tp, tl⟩ x.z.W x.z.st = r) (e0 : r.s.ph = 0) (e1 : ¬ r.s.er = 0) (hL : x.L ≠ [])
    (J : ∀ p, UJ p T R N cap o x ρ w I) : ∃ p, UK p 1 T R N cap o x ρ w I := by
  have hz := um_d1 h hs hk hc hst e0
  have hb := h.b
  have ck := h.c1
  have hk0 := h.k1
  have hll : x.L.length ≤ 320 := by have := h.hl; omega
  have F := h.facts (by omega)
  obtain ⟨i, ⟨W, st, kd, wd, vl, ch, c0, c1, c2, p0, p1, p2, k0, k1, k2⟩, L⟩ := x
  dsimp only at hc hst hk hs F hz hb ck hk0 hll hL
  subst hc
  obtain rfl : key = k1 := hk0
  obtain ⟨hi320, ewi, t1, t4, r1, r8, hl, s0, s1, hw⟩ := F
  have hr := right_TR t1 t4 r1 r8
  have hP : TPre T R (sfT T R key) ⟨false, lg, key, ph, seq, j0, fd, hd, tm, er, pl, sn, fl, bk, ep, tp, tl⟩ W st := pre_of hb ck
  have kk := step_k hb ck (by omega)
  dsimp only at kk
  rw [hst] at kk
  obtain ⟨⟨rm', lg', key', ph', seq', j', fd', hd', tm', er', pl', sn', fl', bk', ep', tp', tl'⟩, W', kd', wd', vl', ch'⟩ := r
  obtain rfl : rm' = false := kk.rm
  obtain rfl : key' = key := kk.key
  dsimp only [evS] at e0 e1 hz
  subst e0
  obtain ⟨g1, g2⟩ := lg_some (h := 15) hL
  have hfl := flE_len (l := L)
  simp only [Bool.false_eq_true, if_false] at hz
  refine ⟨⟨T, R, sfT T R key', false, false, ⟨false, lg, key', ph, seq, j0, fd, hd, tm, er, pl, sn, fl, bk, ep, tp, tl⟩, ⟨⟨false, lg', key', 0, seq', j', fd', hd', tm', er', pl', sn', fl', bk', ep', tp', tl'⟩, W', kd', wd', vl', ch'⟩⟩, ?_⟩
  have hX := hXTu ⟨T, R, sfT T R key', false, false, ⟨false, lg, key', ph, seq, j0, fd, hd, tm, er, pl, sn, fl, bk, ep, tp, tl⟩, ⟨⟨false, lg', key', 0, seq', j', fd', hd', tm', er', pl', sn', fl', bk', ep', tp', tl'⟩, W', kd', wd', vl', ch'⟩⟩
  have J := J ⟨T, R, sfT T R key', false, false, ⟨false, lg, key', ph, seq, j0, fd, hd, tm, er, pl, sn, fl, bk, ep, tp, tl⟩, ⟨⟨false, lg', key', 0, seq', j', fd', hd', tm', er', pl', sn', fl', bk', ep', tp', tl'⟩, W', kd', wd', vl', ch'⟩⟩ ⟨i + 1, ⟨W', st + 1, kd', wd', vl', ch', c0, none, c2, p0, p1, p2, k0, key', k2⟩, L ++ [⟨tm', key', 0, er'⟩]⟩ hz rfl
  dsimp only [umT, umH, tqH] at J
  rw [lgV_app, lgE_app] at J
  have tsz : ((XTu ⟨T, R, sfT T R key', false, false, ⟨false, lg, key', ph, seq, j0, fd, hd, tm, er, pl, sn, fl, bk, ep, tp, tl⟩, ⟨⟨false, lg', key', 0, seq', j', fd', hd', tm', er', pl', sn', fl', bk', ep', tp', tl'⟩, W', kd', wd', vl', ch'⟩⟩).TE 114).size = 4 := rfl
  dsimp only [UK, umK, umH, tqH]
  rw [g1, g2]
  refine sx hX [] 4000 rfl (by (simp [-List.getD_eq_getElem?_getD, -List.length_eq_zero_iff, conjP, hP, hst, ruC, cond_false])) ?_
  refine sx hX [.T] 4000 rfl (by (simp [-List.getD_eq_getElem?_getD, -List.length_eq_zero_iff, conjP, getH, HE.so, tsz, hfl, e1, ruC, cond_false] <;> (first | omega | ((repeat' (refine And.intro ?_ ?_)) <;> (first | omega | exact decide_eq_false (by omega) | exact decide_eq_true (by omega)))))) ?_
  (refine J _ _ _ (sub_of [0, 1, 2, 3, 4, 5, 6, 7, 8, 9, 10, 11, 12, 13, 14, 18] rfl rfl rfl rfl ?tt ?hh ?ot ?ok); (case tt => simp only [ewi]; exact clhU); (case hh => exact clhU); (case ot => exact clkU); (case ok => exact clkU))
set_option maxHeartbeats 4000000 in
theorem ut1rn (h : UInv T R N x) (hs : x.i < min N 200 + 120) (hk : x.i < min N 200 ∨ x.i % 4 = 1) {lg : Bool} {key : Int} {ph : Nat} {seq : Int} {j0 : Nat} {fd : Int} {hd : Bool} {tm er pl sn fl bk ep tp : Int} {tl : Bool} (hc : x.z.c1 = some ⟨true, lg, key, ph, seq, j0, fd, hd, tm, er, pl, sn, fl, bk, ep, tp, tl⟩) {r : TR} (hst : tStep T R (sfT T R key) ⟨true, lg, key, ph, seq, j0, fd, hd, tm, er, pl, sn, fl, bk, ep, tp, tl⟩ x.z.W x.z.st = r) (e0 : ¬ r.s.ph = 0)
    (J : ∀ p, UJ p T R N cap o x ρ w I) : ∃ p, UK p 1 T R N cap o x ρ w I := by
  have hz := um_n1 h hs hk hc hst e0
  have hb := h.b
  have ck := h.c1
  have hk0 := h.k1
  have hll : x.L.length ≤ 320 := by have := h.hl; omega
  have F := h.facts (by omega)
  obtain ⟨i, ⟨W, st, kd, wd, vl, ch, c0, c1, c2, p0, p1, p2, k0, k1, k2⟩, L⟩ := x
  dsimp only at hc hst hk hs F hz hb ck hk0 hll
  subst hc
  obtain rfl : key = k1 := hk0
  obtain ⟨hi320, ewi, t1, t4, r1, r8, hl, s0, s1, hw⟩ := F
  have hr := right_TR t1 t4 r1 r8
  have hP : TPre T R (sfT T R key) ⟨true, lg, key, ph, seq, j0, fd, hd, tm, er, pl, sn, fl, bk, ep, tp, tl⟩ W st := pre_of hb ck
  have kk := step_k hb ck (by omega)
  dsimp only at kk
  rw [hst] at kk
  obtain ⟨⟨rm', lg', key', ph', seq', j', fd', hd', tm', er', pl', sn', fl', bk', ep', tp', tl'⟩, W', kd', wd', vl', ch'⟩ := r
  obtain rfl : rm' = true := kk.rm
  obtain rfl : key' = key := kk.key
  dsimp only [evS] at e0 hz
  skip
  refine ⟨⟨T, R, sfT T R key', false, false, ⟨true, lg, key', ph, seq, j0, fd, hd, tm, er, pl, sn, fl, bk, ep, tp, tl⟩, ⟨⟨true, lg', key', ph', seq', j', fd', hd', tm', er', pl', sn', fl', bk', ep', tp', tl'⟩, W', kd', wd', vl', ch'⟩⟩, ?_⟩
  have hX := hXTu ⟨T, R, sfT T R key', false, false, ⟨true, lg, key', ph, seq, j0, fd, hd, tm, er, pl, sn, fl, bk, ep, tp, tl⟩, ⟨⟨true, lg', key', ph', seq', j', fd', hd', tm', er', pl', sn', fl', bk', ep', tp', tl'⟩, W', kd', wd', vl', ch'⟩⟩
  have J := J ⟨T, R, sfT T R key', false, false, ⟨true, lg, key', ph, seq, j0, fd, hd, tm, er, pl, sn, fl, bk, ep, tp, tl⟩, ⟨⟨true, lg', key', ph', seq', j', fd', hd', tm', er', pl', sn', fl', bk', ep', tp', tl'⟩, W', kd', wd', vl', ch'⟩⟩ ⟨i + 1, ⟨W', st + 1, kd', wd', vl', ch', c0, some ⟨true, lg', key', ph', seq', j', fd', hd', tm', er', pl', sn', fl', bk', ep', tp', tl'⟩, c2, p0, p1, p2, k0, key', k2⟩, L⟩ hz rfl
  dsimp only [umT, umH, tqH] at J
  skip
  skip
  dsimp only [UK, umK, umH, tqH]
  refine sx hX [] 4000 rfl (by (simp [-List.getD_eq_getElem?_getD, -List.length_eq_zero_iff, conjP, hP, hst, ruC, cond_true])) ?_
  refine sx hX [.F] 4000 rfl (by (simp [-List.getD_eq_getElem?_getD, -List.length_eq_zero_iff, conjP, addOP, e0])) ?_
  (refine J _ _ _ (sub_of [0, 1, 2, 3, 4, 5, 6, 7, 8, 9, 10, 11, 12, 13, 14, 15] rfl rfl rfl rfl ?tt ?hh ?ot ?ok); (case tt => simp only [ewi]; exact clhU); (case hh => exact clhU); (case ot => exact clkU); (case ok => exact clkU))
set_option maxHeartbeats 4000000 in
theorem ut1rdnt (h : UInv T R N x) (hs : x.i < min N 200 + 120) (hk : x.i < min N 200 ∨ x.i % 4 = 1) {lg : Bool} {key : Int} {ph : Nat} {seq : Int} {j0 : Nat} {fd : Int} {hd : Bool} {tm er pl sn fl bk ep tp : Int} {tl : Bool} (hc : x.z.c1 = some ⟨true, lg, key, ph, seq, j0, fd, hd, tm, er, pl, sn, fl, bk, ep, tp, tl⟩) {r : TR} (hst : tStep T R (sfT T R key) ⟨true, lg, key, ph, seq, j0, fd, hd, tm, er, pl, sn, fl, bk, ep, tp, tl⟩ x.z.W x.z.st = r) (e0 : r.s.ph = 0) (e1 : r.s.er = 0) (hL : x.L = [])
    (J : ∀ p, UJ p T R N cap o x ρ w I) : ∃ p, UK p 1 T R N cap o x ρ w I := by
  have hz := um_d1 h hs hk hc hst e0
  have hb := h.b
  have ck := h.c1
  have hk0 := h.k1
  have hll : x.L.length ≤ 320 := by have := h.hl; omega
  have F := h.facts (by omega)
  obtain ⟨i, ⟨W, st, kd, wd, vl, ch, c0, c1, c2, p0, p1, p2, k0, k1, k2⟩, L⟩ := x
  dsimp only at hc hst hk hs F hz hb ck hk0 hll hL
  subst hc
  obtain rfl : key = k1 := hk0
  obtain ⟨hi320, ewi, t1, t4, r1, r8, hl, s0, s1, hw⟩ := F
  have hr := right_TR t1 t4 r1 r8
  have hP : TPre T R (sfT T R key) ⟨true, lg, key, ph, seq, j0, fd, hd, tm, er, pl, sn, fl, bk, ep, tp, tl⟩ W st := pre_of hb ck
  have kk := step_k hb ck (by omega)
  dsimp only at kk
  rw [hst] at kk
  obtain ⟨⟨rm', lg', key', ph', seq', j', fd', hd', tm', er', pl', sn', fl', bk', ep', tp', tl'⟩, W', kd', wd', vl', ch'⟩ := r
  obtain rfl : rm' = true := kk.rm
  obtain rfl : key' = key := kk.key
  dsimp only [evS] at e0 e1 hz
  subst e0
  subst e1
  subst hL
  simp only [if_true] at hz
  refine ⟨⟨T, R, sfT T R key', false, true, ⟨true, lg, key', ph, seq, j0, fd, hd, tm, er, pl, sn, fl, bk, ep, tp, tl⟩, ⟨⟨true, lg', key', 0, seq', j', fd', hd', tm', 0, pl', sn', fl', bk', ep', tp', tl'⟩, W', kd', wd', vl', ch'⟩⟩, ?_⟩
  have hX := hXTu ⟨T, R, sfT T R key', false, true, ⟨true, lg, key', ph, seq, j0, fd, hd, tm, er, pl, sn, fl, bk, ep, tp, tl⟩, ⟨⟨true, lg', key', 0, seq', j', fd', hd', tm', 0, pl', sn', fl', bk', ep', tp', tl'⟩, W', kd', wd', vl', ch'⟩⟩
  have J := J ⟨T, R, sfT T R key', false, true, ⟨true, lg, key', ph, seq, j0, fd, hd, tm, er, pl, sn, fl, bk, ep, tp, tl⟩, ⟨⟨true, lg', key', 0, seq', j', fd', hd', tm', 0, pl', sn', fl', bk', ep', tp', tl'⟩, W', kd', wd', vl', ch'⟩⟩ ⟨i + 1, ⟨W', st + 1, kd', wd', vl', ch', c0, none, c2, p0, p1, p2, k0, key', k2⟩, [] ++ [⟨tm', key', 1, 0⟩]⟩ hz rfl
  dsimp only [umT, umH, tqH] at J
  rw [lgV_app, lgE_app] at J
  have tsz : ((XTu ⟨T, R, sfT T R key', false, true, ⟨true, lg, key', ph, seq, j0, fd, hd, tm, er, pl, sn, fl, bk, ep, tp, tl⟩, ⟨⟨true, lg', key', 0, seq', j', fd', hd', tm', 0, pl', sn', fl', bk', ep', tp', tl'⟩, W', kd', wd', vl', ch'⟩⟩).TE 114).size = 4 := rfl
  dsimp only [UK, umK, umH, tqH]
  refine sx hX [] 4000 rfl (by (simp [-List.getD_eq_getElem?_getD, -List.length_eq_zero_iff, conjP, hP, hst, ruC, cond_true])) ?_
  refine sx hX [.T] 4000 rfl (by (simp [-List.getD_eq_getElem?_getD, -List.length_eq_zero_iff, conjP, getH, HE.so, tsz, ruC, cond_true])) ?_
  (refine J _ _ _ (sub_of [0, 1, 2, 3, 4, 5, 6, 7, 8, 9, 10, 11, 12, 13, 14, 17] rfl rfl rfl rfl ?tt ?hh ?ot ?ok); (case tt => simp only [ewi]; exact clhU); (case hh => exact clhU); (case ot => exact clkU); (case ok => exact clkU))
set_option maxHeartbeats 4000000 in
theorem ut1rdnf (h : UInv T R N x) (hs : x.i < min N 200 + 120) (hk : x.i < min N 200 ∨ x.i % 4 = 1) {lg : Bool} {key : Int} {ph : Nat} {seq : Int} {j0 : Nat} {fd : Int} {hd : Bool} {tm er pl sn fl bk ep tp : Int} {tl : Bool} (hc : x.z.c1 = some ⟨true, lg, key, ph, seq, j0, fd, hd, tm, er, pl, sn, fl, bk, ep, tp, tl⟩) {r : TR} (hst : tStep T R (sfT T R key) ⟨true, lg, key, ph, seq, j0, fd, hd, tm, er, pl, sn, fl, bk, ep, tp, tl⟩ x.z.W x.z.st = r) (e0 : r.s.ph = 0) (e1 : ¬ r.s.er = 0) (hL : x.L = [])
    (J : ∀ p, UJ p T R N cap o x ρ w I) : ∃ p, UK p 1 T R N cap o x ρ w I := by
  have hz := um_d1 h hs hk hc hst e0
  have hb := h.b
  have ck := h.c1
  have hk0 := h.k1
  have hll : x.L.length ≤ 320 := by have := h.hl; omega
  have F := h.facts (by omega)
  obtain ⟨i, ⟨W, st, kd, wd, vl, ch, c0, c1, c2, p0, p1, p2, k0, k1, k2⟩, L⟩ := x
  dsimp only at hc hst hk hs F hz hb ck hk0 hll hL
  subst hc
  obtain rfl : key = k1 := hk0
  obtain ⟨hi320, ewi, t1, t4, r1, r8, hl, s0, s1, hw⟩ := F
  have hr := right_TR t1 t4 r1 r8
  have hP : TPre T R (sfT T R key) ⟨true, lg, key, ph, seq, j0, fd, hd, tm, er, pl, sn, fl, bk, ep, tp, tl⟩ W st := pre_of hb ck
  have kk := step_k hb ck (by omega)
  dsimp only at kk
  rw [hst] at kk
  obtain ⟨⟨rm', lg', key', ph', seq', j', fd', hd', tm', er', pl', sn', fl', bk', ep', tp', tl'⟩, W', kd', wd', vl', ch'⟩ := r
  obtain rfl : rm' = true := kk.rm
  obtain rfl : key' = key := kk.key
  dsimp only [evS] at e0 e1 hz
  subst e0
  subst hL
  simp only [if_true] at hz
  refine ⟨⟨T, R, sfT T R key', false, false, ⟨true, lg, key', ph, seq, j0, fd, hd, tm, er, pl, sn, fl, bk, ep, tp, tl⟩, ⟨⟨true, lg', key', 0, seq', j', fd', hd', tm', er', pl', sn', fl', bk', ep', tp', tl'⟩, W', kd', wd', vl', ch'⟩⟩, ?_⟩
  have hX := hXTu ⟨T, R, sfT T R key', false, false, ⟨true, lg, key', ph, seq, j0, fd, hd, tm, er, pl, sn, fl, bk, ep, tp, tl⟩, ⟨⟨true, lg', key', 0, seq', j', fd', hd', tm', er', pl', sn', fl', bk', ep', tp', tl'⟩, W', kd', wd', vl', ch'⟩⟩
  have J := J ⟨T, R, sfT T R key', false, false, ⟨true, lg, key', ph, seq, j0, fd, hd, tm, er, pl, sn, fl, bk, ep, tp, tl⟩, ⟨⟨true, lg', key', 0, seq', j', fd', hd', tm', er', pl', sn', fl', bk', ep', tp', tl'⟩, W', kd', wd', vl', ch'⟩⟩ ⟨i + 1, ⟨W', st + 1, kd', wd', vl', ch', c0, none, c2, p0, p1, p2, k0, key', k2⟩, [] ++ [⟨tm', key', 1, er'⟩]⟩ hz rfl
  dsimp only [umT, umH, tqH] at J
  rw [lgV_app, lgE_app] at J
  have tsz : ((XTu ⟨T, R, sfT T R key', false, false, ⟨true, lg, key', ph, seq, j0, fd, hd, tm, er, pl, sn, fl, bk, ep, tp, tl⟩, ⟨⟨true, lg', key', 0, seq', j', fd', hd', tm', er', pl', sn', fl', bk', ep', tp', tl'⟩, W', kd', wd', vl', ch'⟩⟩).TE 114).size = 4 := rfl
  dsimp only [UK, umK, umH, tqH]
  refine sx hX [] 4000 rfl (by (simp [-List.getD_eq_getElem?_getD, -List.length_eq_zero_iff, conjP, hP, hst, ruC, cond_true])) ?_
  refine sx hX [.T] 4000 rfl (by (simp [-List.getD_eq_getElem?_getD, -List.length_eq_zero_iff, conjP, getH, HE.so, tsz, e1, ruC, cond_true])) ?_
  (refine J _ _ _ (sub_of [0, 1, 2, 3, 4, 5, 6, 7, 8, 9, 10, 11, 12, 13, 14, 17] rfl rfl rfl rfl ?tt ?hh ?ot ?ok); (case tt => simp only [ewi]; exact clhU); (case hh => exact clhU); (case ot => exact clkU); (case ok => exact clkU))
set_option maxHeartbeats 4000000 in
theorem ut1rdst (h : UInv T R N x) (hs : x.i < min N 200 + 120) (hk : x.i < min N 200 ∨ x.i % 4 = 1) {lg : Bool} {key : Int} {ph : Nat} {seq : Int} {j0 : Nat} {fd : Int} {hd : Bool} {tm er pl sn fl bk ep tp : Int} {tl : Bool} (hc : x.z.c1 = some ⟨true, lg, key, ph, seq, j0, fd, hd, tm, er, pl, sn, fl, bk, ep, tp, tl⟩) {r : TR} (hst : tStep T R (sfT T R key) ⟨true, lg, key, ph, seq, j0, fd, hd, tm, er, pl, sn, fl, bk, ep, tp, tl⟩ x.z.W x.z.st = r) (e0 : r.s.ph = 0) (e1 : r.s.er = 0) (hL : x.L ≠ [])
    (J : ∀ p, UJ p T R N cap o x ρ w I) : ∃ p, UK p 1 T R N cap o x ρ w I := by
  have hz := um_d1 h hs hk hc hst e0
  have hb := h.b
  have ck := h.c1
  have hk0 := h.k1
  have hll : x.L.length ≤ 320 := by have := h.hl; omega
  have F := h.facts (by omega)
  obtain ⟨i, ⟨W, st, kd, wd, vl, ch, c0, c1, c2, p0, p1, p2, k0, k1, k2⟩, L⟩ := x
  dsimp only at hc hst hk hs F hz hb ck hk0 hll hL
  subst hc
  obtain rfl : key = k1 := hk0
  obtain ⟨hi320, ewi, t1, t4, r1, r8, hl, s0, s1, hw⟩ := F
  have hr := right_TR t1 t4 r1 r8
  have hP : TPre T R (sfT T R key) ⟨true, lg, key, ph, seq, j0, fd, hd, tm, er, pl, sn, fl, bk, ep, tp, tl⟩ W st := pre_of hb ck
  have kk := step_k hb ck (by omega)
  dsimp only at kk
  rw [hst] at kk
  obtain ⟨⟨rm', lg', key', ph', seq', j', fd', hd', tm', er', pl', sn', fl', bk', ep', tp', tl'⟩, W', kd', wd', vl', ch'⟩ := r
  obtain rfl : rm' = true := kk.rm
  obtain rfl : key' = key := kk.key
  dsimp only [evS] at e0 e1 hz
  subst e0
  subst e1
  obtain ⟨g1, g2⟩ := lg_some (h := 15) hL
  have hfl := flE_len (l := L)
  simp only [if_true] at hz
  refine ⟨⟨T, R, sfT T R key', false, true, ⟨true, lg, key', ph, seq, j0, fd, hd, tm, er, pl, sn, fl, bk, ep, tp, tl⟩, ⟨⟨true, lg', key', 0, seq', j', fd', hd', tm', 0, pl', sn', fl', bk', ep', tp', tl'⟩, W', kd', wd', vl', ch'⟩⟩, ?_⟩
  have hX := hXTu ⟨T, R, sfT T R key', false, true, ⟨true, lg, key', ph, seq, j0, fd, hd, tm, er, pl, sn, fl, bk, ep, tp, tl⟩, ⟨⟨true, lg', key', 0, seq', j', fd', hd', tm', 0, pl', sn', fl', bk', ep', tp', tl'⟩, W', kd', wd', vl', ch'⟩⟩
  have J := J ⟨T, R, sfT T R key', false, true, ⟨true, lg, key', ph, seq, j0, fd, hd, tm, er, pl, sn, fl, bk, ep, tp, tl⟩, ⟨⟨true, lg', key', 0, seq', j', fd', hd', tm', 0, pl', sn', fl', bk', ep', tp', tl'⟩, W', kd', wd', vl', ch'⟩⟩ ⟨i + 1, ⟨W', st + 1, kd', wd', vl', ch', c0, none, c2, p0, p1, p2, k0, key', k2⟩, L ++ [⟨tm', key', 1, 0⟩]⟩ hz rfl
  dsimp only [umT, umH, tqH] at J
  rw [lgV_app, lgE_app] at J
  have tsz : ((XTu ⟨T, R, sfT T R key', false, true, ⟨true, lg, key', ph, seq, j0, fd, hd, tm, er, pl, sn, fl, bk, ep, tp, tl⟩, ⟨⟨true, lg', key', 0, seq', j', fd', hd', tm', 0, pl', sn', fl', bk', ep', tp', tl'⟩, W', kd', wd', vl', ch'⟩⟩).TE 114).size = 4 := rfl
  dsimp only [UK, umK, umH, tqH]
  rw [g1, g2]
  refine sx hX [] 4000 rfl (by (simp [-List.getD_eq_getElem?_getD, -List.length_eq_zero_iff, conjP, hP, hst, ruC, cond_true])) ?_
  refine sx hX [.T] 4000 rfl (by (simp [-List.getD_eq_getElem?_getD, -List.length_eq_zero_iff, conjP, getH, HE.so, tsz, hfl, ruC, cond_true] <;> (first | omega | ((repeat' (refine And.intro ?_ ?_)) <;> (first | omega | exact decide_eq_false (by omega) | exact decide_eq_true (by omega)))))) ?_
  (refine J _ _ _ (sub_of [0, 1, 2, 3, 4, 5, 6, 7, 8, 9, 10, 11, 12, 13, 14, 17] rfl rfl rfl rfl ?tt ?hh ?ot ?ok); (case tt => simp only [ewi]; exact clhU); (case hh => exact clhU); (case ot => exact clkU); (case ok => exact clkU))
set_option maxHeartbeats 4000000 in
theorem ut1rdsf (h : UInv T R N x) (hs : x.i < min N 200 + 120) (hk : x.i < min N 200 ∨ x.i % 4 = 1) {lg : Bool} {key : Int} {ph : Nat} {seq : Int} {j0 : Nat} {fd : Int} {hd : Bool} {tm er pl sn fl bk ep tp : Int} {tl : Bool} (hc : x.z.c1 = some ⟨true, lg, key, ph, seq, j0, fd, hd, tm, er, pl, sn, fl, bk, ep, tp, tl⟩) {r : TR} (hst : tStep T R (sfT T R key) ⟨true, lg, key, ph, seq, j0, fd, hd, tm, er, pl, sn, fl, bk, ep, tp, tl⟩ x.z.W x.z.st = r) (e0 : r.s.ph = 0) (e1 : ¬ r.s.er = 0) (hL : x.L ≠ [])
    (J : ∀ p, UJ p T R N cap o x ρ w I) : ∃ p, UK p 1 T R N cap o x ρ w I := by
  have hz := um_d1 h hs hk hc hst e0
  have hb := h.b
  have ck := h.c1
  have hk0 := h.k1
  have hll : x.L.length ≤ 320 := by have := h.hl; omega
  have F := h.facts (by omega)
  obtain ⟨i, ⟨W, st, kd, wd, vl, ch, c0, c1, c2, p0, p1, p2, k0, k1, k2⟩, L⟩ := x
  dsimp only at hc hst hk hs F hz hb ck hk0 hll hL
  subst hc
  obtain rfl : key = k1 := hk0
  obtain ⟨hi320, ewi, t1, t4, r1, r8, hl, s0, s1, hw⟩ := F
  have hr := right_TR t1 t4 r1 r8
  have hP : TPre T R (sfT T R key) ⟨true, lg, key, ph, seq, j0, fd, hd, tm, er, pl, sn, fl, bk, ep, tp, tl⟩ W st := pre_of hb ck
  have kk := step_k hb ck (by omega)
  dsimp only at kk
  rw [hst] at kk
  obtain ⟨⟨rm', lg', key', ph', seq', j', fd', hd', tm', er', pl', sn', fl', bk', ep', tp', tl'⟩, W', kd', wd', vl', ch'⟩ := r
  obtain rfl : rm' = true := kk.rm
  obtain rfl : key' = key := kk.key
  dsimp only [evS] at e0 e1 hz
  subst e0
  obtain ⟨g1, g2⟩ := lg_some (h := 15) hL
  have hfl := flE_len (l := L)
  simp only [if_true] at hz
  refine ⟨⟨T, R, sfT T R key', false, false, ⟨true, lg, key', ph, seq, j0, fd, hd, tm, er, pl, sn, fl, bk, ep, tp, tl⟩, ⟨⟨true, lg', key', 0, seq', j', fd', hd', tm', er', pl', sn', fl', bk', ep', tp', tl'⟩, W', kd', wd', vl', ch'⟩⟩, ?_⟩
  have hX := hXTu ⟨T, R, sfT T R key', false, false, ⟨true, lg, key', ph, seq, j0, fd, hd, tm, er, pl, sn, fl, bk, ep, tp, tl⟩, ⟨⟨true, lg', key', 0, seq', j', fd', hd', tm', er', pl', sn', fl', bk', ep', tp', tl'⟩, W', kd', wd', vl', ch'⟩⟩
  have J := J ⟨T, R, sfT T R key', false, false, ⟨true, lg, key', ph, seq, j0, fd, hd, tm, er, pl, sn, fl, bk, ep, tp, tl⟩, ⟨⟨true, lg', key', 0, seq', j', fd', hd', tm', er', pl', sn', fl', bk', ep', tp', tl'⟩, W', kd', wd', vl', ch'⟩⟩ ⟨i + 1, ⟨W', st + 1, kd', wd', vl', ch', c0, none, c2, p0, p1, p2, k0, key', k2⟩, L ++ [⟨tm', key', 1, er'⟩]⟩ hz rfl
  dsimp only [umT, umH, tqH] at J
  rw [lgV_app, lgE_app] at J
  have tsz : ((XTu ⟨T, R, sfT T R key', false, false, ⟨true, lg, key', ph, seq, j0, fd, hd, tm, er, pl, sn, fl, bk, ep, tp, tl⟩, ⟨⟨true, lg', key', 0, seq', j', fd', hd', tm', er', pl', sn', fl', bk', ep', tp', tl'⟩, W', kd', wd', vl', ch'⟩⟩).TE 114).size = 4 := rfl
  dsimp only [UK, umK, umH, tqH]
  rw [g1, g2]
  refine sx hX [] 4000 rfl (by (simp [-List.getD_eq_getElem?_getD, -List.length_eq_zero_iff, conjP, hP, hst, ruC, cond_true])) ?_
  refine sx hX [.T] 4000 rfl (by (simp [-List.getD_eq_getElem?_getD, -List.length_eq_zero_iff, conjP, getH, HE.so, tsz, hfl, e1, ruC, cond_true] <;> (first | omega | ((repeat' (refine And.intro ?_ ?_)) <;> (first | omega | exact decide_eq_false (by omega) | exact decide_eq_true (by omega)))))) ?_
  (refine J _ _ _ (sub_of [0, 1, 2, 3, 4, 5, 6, 7, 8, 9, 10, 11, 12, 13, 14, 17] rfl rfl rfl rfl ?tt ?hh ?ot ?ok); (case tt => simp only [ewi]; exact clhU); (case hh => exact clhU); (case ot => exact clkU); (case ok => exact clkU))
end
end Go.Proofs.YtkkddjchkkaagaaGreatDoor
