/- TopicsEpochs: the place of a key; steps of an op. -/
import Derived.Test.YtkkddjchkkaagaaGreatDoorEpochsWorld
namespace Go.Proofs.YtkkddjchkkaagaaGreatDoor
open Go Go.Hx
set_option maxRecDepth 8000
section
variable {T : Nat} {R : Int} {N cap : Nat} {o : Nat → Int × Int × Bool × Bool} {x : XS} {ρ : Nat → Nat × Nat} {w : World} {I I2 : Act → World → Prop} {key : Int}
def epT (T N cap : Nat) (x : XS) (key pl : Int) (p : Nat) : List (Nat × SV) := [(1, .slice 0 0 N cap), (5, .tt), (6, .ptr 2 0), (7, .ptr 3 0), (9, .slice 5 0 T T), (10, .int .i64 (x.i : Int)), (11, .int .i64 key), (12, .int .i64 pl), (13, .int .i64 (p : Int))]
abbrev EPJ (p0 : EP) (T : Nat) (R : Int) (N cap : Nat) (o : Nat → Int × Int × Bool × Bool) (x : XS) (ρ : Nat → Nat × Nat) (w : World) (I I2 : Act → World → Prop) (key pl : Int) (p : Nat) : Prop :=
  ∀ cs TT H, Sub (FEnv Tryz.prog (XEq p0).TE (hXEq p0).te Tryz.f9 Tryz.f9.ntmps [.obj (.rows N 4 (actR o)), pinE RTV] (Is .tt [.obj (.rows N 4 (actR o)), pinE RTV]) ρ w) TT H (epT T N cap x key pl (p + 1)) (exH N o T R x []) →
    SS (hXEq p0) (At ρ w) (Is .tt [.obj (.rows N 4 (actR o)), pinE RTV]) ⟨cs, [], Tryz.f9, Tryz.f9.ntmps, [.obj (.rows N 4 (actR o)), pinE RTV], downLp (contF Tryz.f9 13 [I2, I]), TT, H⟩
abbrev EPG (p0 : EP) (T : Nat) (R : Int) (N cap : Nat) (o : Nat → Int × Int × Bool × Bool) (x : XS) (ρ : Nat → Nat × Nat) (w : World) (I I2 : Act → World → Prop) (key pl : Int) (p : Nat) : Prop :=
  SS (hXEq p0) (At ρ w) (Is .tt [.obj (.rows N 4 (actR o)), pinE RTV]) ⟨[], [], Tryz.f9, Tryz.f9.ntmps, [.obj (.rows N 4 (actR o)), pinE RTV], contF Tryz.f9 13 [I2, I], epT T N cap x key pl p, exH N o T R x []⟩
set_option maxHeartbeats 4000000 in
theorem ep1 {p0 : EP} (h : XInv T R N x) {p : Nat} (hp : p < T) {pl : Int} (hk : kyW (x.W.getD (eP p) 0) = key) (J : EPJ p0 T R N cap o x ρ w I I2 key (p : Int) p) : EPG p0 T R N cap o x ρ w I I2 key pl p := by
  have b := h.q.b
  obtain ⟨i, W, st, kd, wd, vl, ch, left⟩ := x
  dsimp only at hk b
  have t1 := b.t1
  have t4 := b.t4
  have hr := right_TR t1 t4 b.r1 b.r8
  have hl := b.hl
  have en := ent_at (R := R) hp
  have el := eP_lt' hl hp
  have w0 := (b.hw (eP p)).1
  have w1 := (b.hw (eP p)).2
  have hl5 : W.length ≤ 5000 := by omega
  have hp1 : (p : Int) < (T : Int) := by omega
  have ewp : IntKind.i64.wrap ((p : Int) + 1) = ((p + 1 : Nat) : Int) := by rw [wi64 (by omega) (by omega)]; omega
  have hX := hXEq p0
  dsimp only [EPG, epT, exH]
  refine sx hX [] 4000 rfl (by (simp [-List.getD_eq_getElem?_getD, -List.length_eq_zero_iff, conjP])) ?_
  refine sx hX [.T] 4000 rfl (by (simp [-List.getD_eq_getElem?_getD, -List.length_eq_zero_iff, conjP, getH, HE.so, hr, en, el, w0, w1, hl5, hp1, Int.toNat_natCast, cellOff] <;> (first | omega | ((repeat' (refine And.intro ?_ ?_)) <;> (first | omega | exact decide_eq_false (by omega) | exact decide_eq_true (by omega)))))) ?_
  refine sx hX [.T] 4000 rfl (by (simp [-List.getD_eq_getElem?_getD, -List.length_eq_zero_iff, conjP, addOP, en, hk, Int.toNat_natCast, cellOff])) ?_
  (refine J _ _ _ (sub_of [0, 1, 2, 3, 4, 5] rfl rfl rfl rfl ?tt ?hh ?ot ?ok); (case tt => (try simp only [ewp]); exact clhE); (case hh => exact clhE); (case ot => exact clkE); (case ok => exact clkE))
set_option maxHeartbeats 4000000 in
theorem ep0 {p0 : EP} (h : XInv T R N x) {p : Nat} (hp : p < T) {pl : Int} (hk : ¬ kyW (x.W.getD (eP p) 0) = key) (J : EPJ p0 T R N cap o x ρ w I I2 key pl p) : EPG p0 T R N cap o x ρ w I I2 key pl p := by
  have b := h.q.b
  obtain ⟨i, W, st, kd, wd, vl, ch, left⟩ := x
  dsimp only at hk b
  have t1 := b.t1
  have t4 := b.t4
  have hr := right_TR t1 t4 b.r1 b.r8
  have hl := b.hl
  have en := ent_at (R := R) hp
  have el := eP_lt' hl hp
  have w0 := (b.hw (eP p)).1
  have w1 := (b.hw (eP p)).2
  have hl5 : W.length ≤ 5000 := by omega
  have hp1 : (p : Int) < (T : Int) := by omega
  have ewp : IntKind.i64.wrap ((p : Int) + 1) = ((p + 1 : Nat) : Int) := by rw [wi64 (by omega) (by omega)]; omega
  have hX := hXEq p0
  dsimp only [EPG, epT, exH]
  refine sx hX [] 4000 rfl (by (simp [-List.getD_eq_getElem?_getD, -List.length_eq_zero_iff, conjP])) ?_
  refine sx hX [.T] 4000 rfl (by (simp [-List.getD_eq_getElem?_getD, -List.length_eq_zero_iff, conjP, getH, HE.so, hr, en, el, w0, w1, hl5, hp1, Int.toNat_natCast, cellOff] <;> (first | omega | ((repeat' (refine And.intro ?_ ?_)) <;> (first | omega | exact decide_eq_false (by omega) | exact decide_eq_true (by omega)))))) ?_
  refine sx hX [.F] 4000 rfl (by (simp [-List.getD_eq_getElem?_getD, -List.length_eq_zero_iff, conjP, addOP, en, hk, Int.toNat_natCast, cellOff])) ?_
  (refine J _ _ _ (sub_of [0, 1, 2, 3, 4, 5] rfl rfl rfl rfl ?tt ?hh ?ot ?ok); (case tt => (try simp only [ewp]); exact clhE); (case hh => exact clhE); (case ot => exact clkE); (case ok => exact clkE))
end
end Go.Proofs.YtkkddjchkkaagaaGreatDoor

/- TopicsEpochs: an op, step by step. -/
namespace Go.Proofs.YtkkddjchkkaagaaGreatDoor
open Go Go.Hx
set_option maxRecDepth 8000
def eyH (N : Nat) (o : Nat → Int × Int × Bool × Bool) (T : Nat) (R : Int) (left : List Int) (y : RS) : List HE := [.obj (.rows N 4 (actR o)), pinE RTV, cfE (T : Int) R, AOx 4 y.W y.st y.kd y.wd y.vl y.ch, WO y.W, .obj (.ints .i64 left 3), hdE (T : Int) R (some y.s) 7 6, ruE (some y.s) 6]
def eyTc (T N cap i : Nat) (key pl : Int) (y : RS) : List (Nat × SV) := [(1, .slice 0 0 N cap), (5, .tt), (6, .ptr 2 0), (7, .ptr 3 0), (9, .slice 5 0 T T), (10, .int .i64 (i : Int)), (11, .int .i64 key), (12, .int .i64 pl), (18, .ptr 7 0), (19, .int .i64 (y.j : Int))]
def eyTr (T N cap i : Nat) (key pl : Int) (y : RS) : List (Nat × SV) := [(1, .slice 0 0 N cap), (5, .tt), (6, .ptr 2 0), (7, .ptr 3 0), (9, .slice 5 0 T T), (10, .int .i64 (i : Int)), (11, .int .i64 key), (12, .int .i64 pl), (14, .ptr 7 0), (15, .int .i64 (y.j : Int))]
section
variable {T : Nat} {R n : Int} {N cap i : Nat} {o : Nat → Int × Int × Bool × Bool} {left W0 : List Int} {ρ : Nat → Nat × Nat} {w : World} {I I2 : Act → World → Prop} {key plv : Int} {lg0 : Bool}
abbrev EYJc (p0 : EP) (T : Nat) (R n : Int) (N cap : Nat) (o : Nat → Int × Int × Bool × Bool) (left W0 : List Int) (i : Nat) (key pl : Int) (lg : Bool) (y : RS) (ρ : Nat → Nat × Nat) (w : World) (I I2 : Act → World → Prop) : Prop :=
  ∀ y', RInv T R n W0 false lg key y' → y'.j = y.j + 1 → ∀ cs TT H, Sub (FEnv Tryz.prog (XEq p0).TE (hXEq p0).te Tryz.f9 Tryz.f9.ntmps [.obj (.rows N 4 (actR o)), pinE RTV] (Is .tt [.obj (.rows N 4 (actR o)), pinE RTV]) ρ w) TT H (eyTc T N cap i key pl y') (eyH N o T R left y') →
    SS (hXEq p0) (At ρ w) (Is .tt [.obj (.rows N 4 (actR o)), pinE RTV]) ⟨cs, [], Tryz.f9, Tryz.f9.ntmps, [.obj (.rows N 4 (actR o)), pinE RTV], downLp (contF Tryz.f9 30 [I2, I]), TT, H⟩
abbrev EYGc (p0 : EP) (T : Nat) (R : Int) (N cap : Nat) (o : Nat → Int × Int × Bool × Bool) (left : List Int) (i : Nat) (key pl : Int) (y : RS) (ρ : Nat → Nat × Nat) (w : World) (I I2 : Act → World → Prop) : Prop :=
  SS (hXEq p0) (At ρ w) (Is .tt [.obj (.rows N 4 (actR o)), pinE RTV]) ⟨[], [], Tryz.f9, Tryz.f9.ntmps, [.obj (.rows N 4 (actR o)), pinE RTV], contF Tryz.f9 30 [I2, I], eyTc T N cap i key pl y, eyH N o T R left y⟩
set_option maxHeartbeats 4000000 in
theorem eycn {y : RS} (h : RInv T R n W0 false lg0 key y) (hj : y.j < T + 7) (hn : n + 100 ≤ 10000) {lg : Bool} {kk : Int} {ph : Nat} {seq : Int} {j0 : Nat} {fd : Int} {hd : Bool} {tm er pl sn fl bk ep tp : Int} {tl : Bool} (hs : y.s = ⟨false, lg, kk, ph, seq, j0, fd, hd, tm, er, pl, sn, fl, bk, ep, tp, tl⟩) (h0 : ph ≠ 0) (J : ∀ p0, EYJc p0 T R n N cap o left W0 i key plv lg0 y ρ w I I2) : ∃ p0, EYGc p0 T R N cap o left i key plv y ρ w I I2 := by
  obtain ⟨j, W, st, kd, wd, vl, ch, s⟩ := y
  dsimp only at hs hj
  subst hs
  have b := h.b
  dsimp only at b
  have t1 := b.t1
  have t4 := b.t4
  have hj1 : (j : Int) < (T : Int) + 7 := by omega
  have ewt : IntKind.i64.wrap ((T : Int) + 7) = (T : Int) + 7 := wi64 (by omega) (by omega)
  have ewj : IntKind.i64.wrap ((j : Int) + 1) = ((j + 1 : Nat) : Int) := by rw [wi64 (by omega) (by omega)]; omega
  obtain ⟨_, hC, _⟩ := h.run h0
  have hP : TPre T R (sfT T R kk) ⟨false, lg, kk, ph, seq, j0, fd, hd, tm, er, pl, sn, fl, bk, ep, tp, tl⟩ W st := pre_of b hC
  obtain ⟨r, hst⟩ : ∃ r, tStep T R (sfT T R kk) ⟨false, lg, kk, ph, seq, j0, fd, hd, tm, er, pl, sn, fl, bk, ep, tp, tl⟩ W st = r := ⟨_, rfl⟩
  have hx := r_next h hj hn h0 hst
  have kkk := (step_k b hC (by have := b.n1; omega)).rm
  dsimp only at kkk
  rw [hst] at kkk
  obtain ⟨⟨rm', lg', key', ph', seq', j', fd', hd', tm', er', pl', sn', fl', bk', ep', tp', tl'⟩, W', kd', wd', vl', ch'⟩ := r
  obtain rfl : rm' = false := kkk
  refine ⟨⟨T, R, sfT T R kk, false, ⟨false, lg, kk, ph, seq, j0, fd, hd, tm, er, pl, sn, fl, bk, ep, tp, tl⟩, ⟨⟨false, lg', key', ph', seq', j', fd', hd', tm', er', pl', sn', fl', bk', ep', tp', tl'⟩, W', kd', wd', vl', ch'⟩⟩, ?_⟩
  have hX := hXEq ⟨T, R, sfT T R kk, false, ⟨false, lg, kk, ph, seq, j0, fd, hd, tm, er, pl, sn, fl, bk, ep, tp, tl⟩, ⟨⟨false, lg', key', ph', seq', j', fd', hd', tm', er', pl', sn', fl', bk', ep', tp', tl'⟩, W', kd', wd', vl', ch'⟩⟩
  dsimp only [EYGc, eyTc, eyH]
  refine sx hX [] 4000 rfl (by (simp [-List.getD_eq_getElem?_getD, -List.length_eq_zero_iff, conjP])) ?_
  refine sx hX [.T] 4000 rfl (by (simp [-List.getD_eq_getElem?_getD, -List.length_eq_zero_iff, conjP, hj1, ewt, hP, hst, ruC, cond_false])) ?_
  (refine J _ ⟨j + 1, W', st + 1, kd', wd', vl', ch', ⟨false, lg', key', ph', seq', j', fd', hd', tm', er', pl', sn', fl', bk', ep', tp', tl'⟩⟩ hx rfl _ _ _ (sub_of [0, 1, 2, 3, 4, 5, 6, 7] rfl rfl rfl rfl ?tt ?hh ?ot ?ok); (case tt => (try simp only [ewj]); exact clhE); (case hh => exact clhE); (case ot => exact clkE); (case ok => exact clkE))
set_option maxHeartbeats 4000000 in
theorem eycd {y : RS} (h : RInv T R n W0 false lg0 key y) (hj : y.j < T + 7) (hn : n + 100 ≤ 10000) {lg : Bool} {kk : Int} {seq : Int} {j0 : Nat} {fd : Int} {hd : Bool} {tm er pl sn fl bk ep tp : Int} {tl : Bool} (hs : y.s = ⟨false, lg, kk, 0, seq, j0, fd, hd, tm, er, pl, sn, fl, bk, ep, tp, tl⟩) (J : ∀ p0, EYJc p0 T R n N cap o left W0 i key plv lg0 y ρ w I I2) : ∃ p0, EYGc p0 T R N cap o left i key plv y ρ w I I2 := by
  obtain ⟨j, W, st, kd, wd, vl, ch, s⟩ := y
  dsimp only at hs hj
  subst hs
  have b := h.b
  dsimp only at b
  have t1 := b.t1
  have t4 := b.t4
  have hj1 : (j : Int) < (T : Int) + 7 := by omega
  have ewt : IntKind.i64.wrap ((T : Int) + 7) = (T : Int) + 7 := wi64 (by omega) (by omega)
  have ewj : IntKind.i64.wrap ((j : Int) + 1) = ((j + 1 : Nat) : Int) := by rw [wi64 (by omega) (by omega)]; omega
  have hx := r_stay h hj hn rfl
  refine ⟨⟨T, R, sfT T R kk, true, ⟨false, lg, kk, 0, seq, j0, fd, hd, tm, er, pl, sn, fl, bk, ep, tp, tl⟩, r00⟩, ?_⟩
  have hX := hXEq ⟨T, R, sfT T R kk, true, ⟨false, lg, kk, 0, seq, j0, fd, hd, tm, er, pl, sn, fl, bk, ep, tp, tl⟩, r00⟩
  dsimp only [EYGc, eyTc, eyH]
  refine sx hX [] 4000 rfl (by (simp [-List.getD_eq_getElem?_getD, -List.length_eq_zero_iff, conjP])) ?_
  refine sx hX [.T] 4000 rfl (by (simp [-List.getD_eq_getElem?_getD, -List.length_eq_zero_iff, conjP, hj1, ewt, ruC, cond_false])) ?_
  (refine J _ ⟨j + 1, W, st, kd, wd, vl, ch, ⟨false, lg, kk, 0, seq, j0, fd, hd, tm, er, pl, sn, fl, bk, ep, tp, tl⟩⟩ hx rfl _ _ _ (sub_of [0, 1, 2, 3, 4, 5, 6, 7] rfl rfl rfl rfl ?tt ?hh ?ot ?ok); (case tt => (try simp only [ewj]); exact clhE); (case hh => exact clhE); (case ot => exact clkE); (case ok => exact clkE))
abbrev EYJr (p0 : EP) (T : Nat) (R n : Int) (N cap : Nat) (o : Nat → Int × Int × Bool × Bool) (left W0 : List Int) (i : Nat) (key pl : Int) (lg : Bool) (y : RS) (ρ : Nat → Nat × Nat) (w : World) (I I2 : Act → World → Prop) : Prop :=
  ∀ y', RInv T R n W0 true lg key y' → y'.j = y.j + 1 → ∀ cs TT H, Sub (FEnv Tryz.prog (XEq p0).TE (hXEq p0).te Tryz.f9 Tryz.f9.ntmps [.obj (.rows N 4 (actR o)), pinE RTV] (Is .tt [.obj (.rows N 4 (actR o)), pinE RTV]) ρ w) TT H (eyTr T N cap i key pl y') (eyH N o T R left y') →
    SS (hXEq p0) (At ρ w) (Is .tt [.obj (.rows N 4 (actR o)), pinE RTV]) ⟨cs, [], Tryz.f9, Tryz.f9.ntmps, [.obj (.rows N 4 (actR o)), pinE RTV], downLp (contF Tryz.f9 20 [I2, I]), TT, H⟩
abbrev EYGr (p0 : EP) (T : Nat) (R : Int) (N cap : Nat) (o : Nat → Int × Int × Bool × Bool) (left : List Int) (i : Nat) (key pl : Int) (y : RS) (ρ : Nat → Nat × Nat) (w : World) (I I2 : Act → World → Prop) : Prop :=
  SS (hXEq p0) (At ρ w) (Is .tt [.obj (.rows N 4 (actR o)), pinE RTV]) ⟨[], [], Tryz.f9, Tryz.f9.ntmps, [.obj (.rows N 4 (actR o)), pinE RTV], contF Tryz.f9 20 [I2, I], eyTr T N cap i key pl y, eyH N o T R left y⟩
set_option maxHeartbeats 4000000 in
theorem eyrn {y : RS} (h : RInv T R n W0 true lg0 key y) (hj : y.j < T + 7) (hn : n + 100 ≤ 10000) {lg : Bool} {kk : Int} {ph : Nat} {seq : Int} {j0 : Nat} {fd : Int} {hd : Bool} {tm er pl sn fl bk ep tp : Int} {tl : Bool} (hs : y.s = ⟨true, lg, kk, ph, seq, j0, fd, hd, tm, er, pl, sn, fl, bk, ep, tp, tl⟩) (h0 : ph ≠ 0) (J : ∀ p0, EYJr p0 T R n N cap o left W0 i key plv lg0 y ρ w I I2) : ∃ p0, EYGr p0 T R N cap o left i key plv y ρ w I I2 := by
  obtain ⟨j, W, st, kd, wd, vl, ch, s⟩ := y
  dsimp only at hs hj
  subst hs
  have b := h.b
  dsimp only at b
  have t1 := b.t1
  have t4 := b.t4
  have hj1 : (j : Int) < (T : Int) + 7 := by omega
  have ewt : IntKind.i64.wrap ((T : Int) + 7) = (T : Int) + 7 := wi64 (by omega) (by omega)
  have ewj : IntKind.i64.wrap ((j : Int) + 1) = ((j + 1 : Nat) : Int) := by rw [wi64 (by omega) (by omega)]; omega
  obtain ⟨_, hC, _⟩ := h.run h0
  have hP : TPre T R (sfT T R kk) ⟨true, lg, kk, ph, seq, j0, fd, hd, tm, er, pl, sn, fl, bk, ep, tp, tl⟩ W st := pre_of b hC
  obtain ⟨r, hst⟩ : ∃ r, tStep T R (sfT T R kk) ⟨true, lg, kk, ph, seq, j0, fd, hd, tm, er, pl, sn, fl, bk, ep, tp, tl⟩ W st = r := ⟨_, rfl⟩
  have hx := r_next h hj hn h0 hst
  have kkk := (step_k b hC (by have := b.n1; omega)).rm
  dsimp only at kkk
  rw [hst] at kkk
  obtain ⟨⟨rm', lg', key', ph', seq', j', fd', hd', tm', er', pl', sn', fl', bk', ep', tp', tl'⟩, W', kd', wd', vl', ch'⟩ := r
  obtain rfl : rm' = true := kkk
  refine ⟨⟨T, R, sfT T R kk, false, ⟨true, lg, kk, ph, seq, j0, fd, hd, tm, er, pl, sn, fl, bk, ep, tp, tl⟩, ⟨⟨true, lg', key', ph', seq', j', fd', hd', tm', er', pl', sn', fl', bk', ep', tp', tl'⟩, W', kd', wd', vl', ch'⟩⟩, ?_⟩
  have hX := hXEq ⟨T, R, sfT T R kk, false, ⟨true, lg, kk, ph, seq, j0, fd, hd, tm, er, pl, sn, fl, bk, ep, tp, tl⟩, ⟨⟨true, lg', key', ph', seq', j', fd', hd', tm', er', pl', sn', fl', bk', ep', tp', tl'⟩, W', kd', wd', vl', ch'⟩⟩
  dsimp only [EYGr, eyTr, eyH]
  refine sx hX [] 4000 rfl (by (simp [-List.getD_eq_getElem?_getD, -List.length_eq_zero_iff, conjP])) ?_
  refine sx hX [.T] 4000 rfl (by (simp [-List.getD_eq_getElem?_getD, -List.length_eq_zero_iff, conjP, hj1, ewt, hP, hst, ruC, cond_true])) ?_
  (refine J _ ⟨j + 1, W', st + 1, kd', wd', vl', ch', ⟨true, lg', key', ph', seq', j', fd', hd', tm', er', pl', sn', fl', bk', ep', tp', tl'⟩⟩ hx rfl _ _ _ (sub_of [0, 1, 2, 3, 4, 5, 6, 7] rfl rfl rfl rfl ?tt ?hh ?ot ?ok); (case tt => (try simp only [ewj]); exact clhE); (case hh => exact clhE); (case ot => exact clkE); (case ok => exact clkE))
set_option maxHeartbeats 4000000 in
theorem eyrd {y : RS} (h : RInv T R n W0 true lg0 key y) (hj : y.j < T + 7) (hn : n + 100 ≤ 10000) {lg : Bool} {kk : Int} {seq : Int} {j0 : Nat} {fd : Int} {hd : Bool} {tm er pl sn fl bk ep tp : Int} {tl : Bool} (hs : y.s = ⟨true, lg, kk, 0, seq, j0, fd, hd, tm, er, pl, sn, fl, bk, ep, tp, tl⟩) (J : ∀ p0, EYJr p0 T R n N cap o left W0 i key plv lg0 y ρ w I I2) : ∃ p0, EYGr p0 T R N cap o left i key plv y ρ w I I2 := by
  obtain ⟨j, W, st, kd, wd, vl, ch, s⟩ := y
  dsimp only at hs hj
  subst hs
  have b := h.b
  dsimp only at b
  have t1 := b.t1
  have t4 := b.t4
  have hj1 : (j : Int) < (T : Int) + 7 := by omega
  have ewt : IntKind.i64.wrap ((T : Int) + 7) = (T : Int) + 7 := wi64 (by omega) (by omega)
  have ewj : IntKind.i64.wrap ((j : Int) + 1) = ((j + 1 : Nat) : Int) := by rw [wi64 (by omega) (by omega)]; omega
  have hx := r_stay h hj hn rfl
  refine ⟨⟨T, R, sfT T R kk, true, ⟨true, lg, kk, 0, seq, j0, fd, hd, tm, er, pl, sn, fl, bk, ep, tp, tl⟩, r00⟩, ?_⟩
  have hX := hXEq ⟨T, R, sfT T R kk, true, ⟨true, lg, kk, 0, seq, j0, fd, hd, tm, er, pl, sn, fl, bk, ep, tp, tl⟩, r00⟩
  dsimp only [EYGr, eyTr, eyH]
  refine sx hX [] 4000 rfl (by (simp [-List.getD_eq_getElem?_getD, -List.length_eq_zero_iff, conjP])) ?_
  refine sx hX [.T] 4000 rfl (by (simp [-List.getD_eq_getElem?_getD, -List.length_eq_zero_iff, conjP, hj1, ewt, ruC, cond_true])) ?_
  (refine J _ ⟨j + 1, W, st, kd, wd, vl, ch, ⟨true, lg, kk, 0, seq, j0, fd, hd, tm, er, pl, sn, fl, bk, ep, tp, tl⟩⟩ hx rfl _ _ _ (sub_of [0, 1, 2, 3, 4, 5, 6, 7] rfl rfl rfl rfl ?tt ?hh ?ot ?ok); (case tt => (try simp only [ewj]); exact clhE); (case hh => exact clhE); (case ot => exact clkE); (case ok => exact clkE))
end
end Go.Proofs.YtkkddjchkkaagaaGreatDoor
