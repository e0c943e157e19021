/- TopicsEpochs: what an op told. -/
import Derived.Test.YtkkddjchkkaagaaGreatDoorEpochsSteps
namespace Go.Proofs.YtkkddjchkkaagaaGreatDoor
open Go Go.Hx
set_option maxRecDepth 8000
section
variable {T : Nat} {R : Int} {N : Nat} {x : XS} {W' : List Int} {st' kd' wd' vl' : Int} {ch' : Bool}
theorem x_same (h : XInv T R N x) (hin : x.i < N) (hi : x.i < 60) (b : BI T R (40 * (x.i : Int) + 2 * ((T + 7 : Nat) : Int)) W' st') (d : DInv T (sfT T R) W' (cf3 none none none)) (sm : sameW T x.W W') : XInv T R N ⟨x.i + 1, W', st', kd', wd', vl', ch', x.left⟩ := by
  have t4 := b.t4
  refine ⟨⟨b.mono (by dsimp only; omega) (by dsimp only; omega), d, fun p hp => by rw [(sm p hp).2]; exact h.q.nb p hp⟩, h.l, fun p hp => ?_, by dsimp only; omega, by dsimp only; omega⟩
  have e := h.e p hp
  dsimp only
  rw [(sm p hp).2]
  exact ⟨e.1, e.2.1, by omega⟩
theorem x_made (h : XInv T R N x) (hin : x.i < N) (hi : x.i < 60) (b : BI T R (40 * (x.i : Int) + 2 * ((T + 7 : Nat) : Int)) W' st') (d : DInv T (sfT T R) W' (cf3 none none none)) {p : Nat} {e : Int} (sm : setD T x.W W' p e (bornW (x.W.getD (cP T p) 0))) : XInv T R N ⟨x.i + 1, W', st', kd', wd', vl', ch', x.left⟩ := by
  have t4 := b.t4
  have hf : ∀ q, fitC (epW (x.W.getD (cP T q) 0)) 0 0 := fun q => ⟨ep_lo (h.q.b.hw _).1, ep_hi, by decide, by decide, by decide, by decide⟩
  refine ⟨⟨b.mono (by dsimp only; omega) (by dsimp only; omega), d, fun q hq => ?_⟩, h.l, fun q hq => ?_, by dsimp only; omega, by dsimp only; omega⟩
  · dsimp only
    rw [(sm q hq).2]
    split
    · exact bu_pk (hf _) true false
    · exact h.q.nb q hq
  · have e' := h.e q hq
    dsimp only
    rw [(sm q hq).2]
    split
    · rename_i g
      subst g
      rw [show epW (bornW (x.W.getD (cP T q) 0)) = epW (x.W.getD (cP T q) 0) from ep_pk (hf _) true false]
      exact ⟨e'.1, e'.2.1, by omega⟩
    · exact ⟨e'.1, e'.2.1, by omega⟩
theorem x_gone (h : XInv T R N x) (hin : x.i < N) (hi : x.i < 60) (b : BI T R (40 * (x.i : Int) + 2 * ((T + 7 : Nat) : Int)) W' st') (d : DInv T (sfT T R) W' (cf3 none none none)) {p : Nat} (hp : p < T) {e : Int} (sm : setD T x.W W' p e (goneW (x.W.getD (cP T p) 0))) : XInv T R N ⟨x.i + 1, W', st', kd', wd', vl', ch', x.left.set p (x.left.getD p 0 + 1)⟩ := by
  have t4 := b.t4
  refine ⟨⟨b.mono (by dsimp only; omega) (by dsimp only; omega), d, fun q hq => ?_⟩, by simp only [List.length_set]; exact h.l, fun q hq => ?_, by dsimp only; omega, by dsimp only; omega⟩
  · dsimp only
    rw [(sm q hq).2]
    split
    · exact bu_pk gone_fitW false false
    · exact h.q.nb q hq
  · have e' := h.e q hq
    dsimp only
    rw [(sm q hq).2, set_getD]
    by_cases g : q = p
    · subst g
      rw [if_pos rfl, if_pos ⟨rfl, by rw [h.l]; exact hq⟩, show epW (goneW (x.W.getD (cP T q) 0)) = (epW (x.W.getD (cP T q) 0) + 1) % 32768 from ep_pk gone_fitW false false]
      omega
    · rw [if_neg g, if_neg (fun a => g a.1.symm)]
      exact ⟨e'.1, e'.2.1, by omega⟩
end
section
variable {T : Nat} {R : Int} {N cap : Nat} {o : Nat → Int × Int × Bool × Bool} {x : XS} {ρ : Nat → Nat × Nat} {w : World} {I I2 : Act → World → Prop} {key : Int}
abbrev EB (p0 : EP) (T : Nat) (R : Int) (N cap : Nat) (o : Nat → Int × Int × Bool × Bool) (i : Nat) (ρ : Nat → Nat × Nat) (w : World) (I : Act → World → Prop) : Prop :=
  ∀ x', XInv T R N x' → x'.i = i + 1 → ∀ cs TT H, Sub (FEnv Tryz.prog (XEq p0).TE (hXEq p0).te Tryz.f9 Tryz.f9.ntmps [.obj (.rows N 4 (actR o)), pinE RTV] (Is .tt [.obj (.rows N 4 (actR o)), pinE RTV]) ρ w) TT H (exT T N cap x') (exH N o T R x' []) →
    SS (hXEq p0) (At ρ w) (Is .tt [.obj (.rows N 4 (actR o)), pinE RTV]) ⟨cs, [], Tryz.f9, Tryz.f9.ntmps, [.obj (.rows N 4 (actR o)), pinE RTV], downLp (contF Tryz.f9 8 [I]), TT, H⟩
set_option maxHeartbeats 8000000 in
theorem en_none {p0 : EP} (h : XInv T R N x) (hin : x.i < N) (hi : x.i < 60) {y : RS} {lg : Bool} {kk : Int} {seq : Int} {j0 : Nat} {fd : Int} {hd : Bool} {tm pl sn fl bk ep tp : Int} {tl : Bool} (hs : y.s = ⟨true, lg, kk, 0, seq, j0, fd, hd, tm, 12, pl, sn, fl, bk, ep, tp, tl⟩) (b : BI T R (40 * (x.i : Int) + 2 * ((T + 7 : Nat) : Int)) y.W y.st) (d : DInv T (sfT T R) y.W (cf3 none none none)) (sm : sameW T x.W y.W) (J : EB p0 T R N cap o x.i ρ w I) :
    SS (hXEq p0) (At ρ w) (Is .tt [.obj (.rows N 4 (actR o)), pinE RTV]) ⟨[], [], Tryz.f9, Tryz.f9.ntmps, [.obj (.rows N 4 (actR o)), pinE RTV], contF Tryz.f9 23 [I], [(1, .slice 0 0 N cap), (5, .tt), (6, .ptr 2 0), (7, .ptr 3 0), (9, .slice 5 0 T T), (10, .int .i64 (x.i : Int)), (11, .int .i64 key), (12, .int .i64 (-1)), (14, .ptr 7 0)], eyH N o T R x.left y⟩ := by
  have hx := fun kd' wd' vl' ch' => x_same h hin hi b d sm (kd' := kd') (wd' := wd') (vl' := vl') (ch' := ch')
  obtain ⟨i, W9, st9, kd9, wd9, vl9, ch9, left⟩ := x
  obtain ⟨j, W, st, kd, wd, vl, ch, s⟩ := y
  dsimp only at hs hin hi sm b d hx
  subst hs
  have hx := hx kd wd vl ch
  have ewi : IntKind.i64.wrap ((i : Int) + 1) = ((i + 1 : Nat) : Int) := by rw [wi64 (by omega) (by omega)]; omega
  have hX := hXEq p0
  dsimp only [eyH, hdE, ruE, ruC, hoC, nxV, cond_true, cond_false]
  refine sx hX [] 4000 rfl (by (simp [-List.getD_eq_getElem?_getD, -List.length_eq_zero_iff, conjP])) ?_
  refine sx hX [.F] 4000 rfl (by (simp [-List.getD_eq_getElem?_getD, -List.length_eq_zero_iff, conjP, addOP])) ?_
  refine sx hX [.T] 4000 rfl (by (simp [-List.getD_eq_getElem?_getD, -List.length_eq_zero_iff, conjP])) ?_
  refine sx hX [.F] 4000 rfl (by (simp [-List.getD_eq_getElem?_getD, -List.length_eq_zero_iff, conjP, addOP])) ?_
  refine sx hX [.F] 4000 rfl (by (simp [-List.getD_eq_getElem?_getD, -List.length_eq_zero_iff, conjP, addOP])) ?_
  (refine J ⟨i + 1, W, st, kd, wd, vl, ch, left⟩ hx rfl _ _ _ (sub_of [0, 1, 2, 3, 4, 5] rfl rfl rfl rfl ?tt ?hh ?ot ?ok); (case tt => (try simp only [ewi]); exact clhE); (case hh => exact clhE); (case ot => exact clkE); (case ok => exact clkE))
set_option maxHeartbeats 8000000 in
theorem en_gone {p0 : EP} (h : XInv T R N x) (hin : x.i < N) (hi : x.i < 60) {y : RS} {lg : Bool} {kk : Int} {seq : Int} {j0 : Nat} {fd : Int} {hd : Bool} {tm pl sn fl bk ep tp : Int} {tl : Bool} (hs : y.s = ⟨true, lg, kk, 0, seq, j0, fd, hd, tm, 0, pl, sn, fl, bk, ep, tp, tl⟩) (b : BI T R (40 * (x.i : Int) + 2 * ((T + 7 : Nat) : Int)) y.W y.st) (d : DInv T (sfT T R) y.W (cf3 none none none)) {p : Nat} (hp : p < T) {e : Int} (sm : setD T x.W y.W p e (goneW (x.W.getD (cP T p) 0))) (J : EB p0 T R N cap o x.i ρ w I) :
    SS (hXEq p0) (At ρ w) (Is .tt [.obj (.rows N 4 (actR o)), pinE RTV]) ⟨[], [], Tryz.f9, Tryz.f9.ntmps, [.obj (.rows N 4 (actR o)), pinE RTV], contF Tryz.f9 23 [I], [(1, .slice 0 0 N cap), (5, .tt), (6, .ptr 2 0), (7, .ptr 3 0), (9, .slice 5 0 T T), (10, .int .i64 (x.i : Int)), (11, .int .i64 key), (12, .int .i64 ((p : Int))), (14, .ptr 7 0)], eyH N o T R x.left y⟩ := by
  have hx := fun kd' wd' vl' ch' => x_gone h hin hi b d hp sm (kd' := kd') (wd' := wd') (vl' := vl') (ch' := ch')
  obtain ⟨i, W9, st9, kd9, wd9, vl9, ch9, left⟩ := x
  obtain ⟨j, W, st, kd, wd, vl, ch, s⟩ := y
  dsimp only at hs hin hi sm b d hx
  subst hs
  have hx := hx kd wd vl ch
  have ewi : IntKind.i64.wrap ((i : Int) + 1) = ((i + 1 : Nat) : Int) := by rw [wi64 (by omega) (by omega)]; omega
  have e' := h.e p hp
  dsimp only at e'
  have epl : (p : Int) < (left.length : Int) := by have := h.l; dsimp only at this; omega
  have ewl : IntKind.i64.wrap (left.getD p 0 + 1) = left.getD p 0 + 1 := wi64 (by omega) (by omega)
  have hX := hXEq p0
  dsimp only [eyH, hdE, ruE, ruC, hoC, nxV, cond_true, cond_false]
  refine sx hX [] 4000 rfl (by (simp [-List.getD_eq_getElem?_getD, -List.length_eq_zero_iff, conjP])) ?_
  refine sx hX [.F] 4000 rfl (by (simp [-List.getD_eq_getElem?_getD, -List.length_eq_zero_iff, conjP, addOP])) ?_
  refine sx hX [.F] 4000 rfl (by (simp [-List.getD_eq_getElem?_getD, -List.length_eq_zero_iff, conjP, addOP])) ?_
  refine sx hX [.T] 4000 rfl (by (simp [-List.getD_eq_getElem?_getD, -List.length_eq_zero_iff, conjP, Int.toNat_natCast] <;> (first | omega | ((repeat' (refine And.intro ?_ ?_)) <;> (first | omega | exact decide_eq_false (by omega) | exact decide_eq_true (by omega)))))) ?_
  (refine J ⟨i + 1, W, st, kd, wd, vl, ch, (left.set p (left.getD p 0 + 1))⟩ hx rfl _ _ _ (sub_of [0, 1, 2, 3, 4, 5] rfl rfl rfl rfl ?tt ?hh ?ot ?ok); (case tt => (try simp only [ewi]); exact clhE); (case hh => (try simp only [ewl, Int.toNat_natCast, Nat.add_zero]); exact clhE); (case ot => exact clkE); (case ok => exact clkE))
set_option maxHeartbeats 8000000 in
theorem en_there {p0 : EP} (h : XInv T R N x) (hin : x.i < N) (hi : x.i < 60) {y : RS} {lg : Bool} {kk : Int} {seq : Int} {j0 : Nat} {fd : Int} {hd : Bool} {tm pl sn fl bk ep tp : Int} {tl : Bool} (hs : y.s = ⟨false, lg, kk, 0, seq, j0, fd, hd, tm, 14, pl, sn, fl, bk, ep, tp, tl⟩) (b : BI T R (40 * (x.i : Int) + 2 * ((T + 7 : Nat) : Int)) y.W y.st) (d : DInv T (sfT T R) y.W (cf3 none none none)) (sm : sameW T x.W y.W) {p : Nat} (_hp : p < T) (J : EB p0 T R N cap o x.i ρ w I) :
    SS (hXEq p0) (At ρ w) (Is .tt [.obj (.rows N 4 (actR o)), pinE RTV]) ⟨[], [], Tryz.f9, Tryz.f9.ntmps, [.obj (.rows N 4 (actR o)), pinE RTV], contF Tryz.f9 33 [I], [(1, .slice 0 0 N cap), (5, .tt), (6, .ptr 2 0), (7, .ptr 3 0), (9, .slice 5 0 T T), (10, .int .i64 (x.i : Int)), (11, .int .i64 key), (12, .int .i64 ((p : Int))), (18, .ptr 7 0)], eyH N o T R x.left y⟩ := by
  have hx := fun kd' wd' vl' ch' => x_same h hin hi b d sm (kd' := kd') (wd' := wd') (vl' := vl') (ch' := ch')
  obtain ⟨i, W9, st9, kd9, wd9, vl9, ch9, left⟩ := x
  obtain ⟨j, W, st, kd, wd, vl, ch, s⟩ := y
  dsimp only at hs hin hi sm b d hx
  subst hs
  have hx := hx kd wd vl ch
  have ewi : IntKind.i64.wrap ((i : Int) + 1) = ((i + 1 : Nat) : Int) := by rw [wi64 (by omega) (by omega)]; omega
  have hX := hXEq p0
  dsimp only [eyH, hdE, ruE, ruC, hoC, nxV, cond_true, cond_false]
  refine sx hX [] 4000 rfl (by (simp [-List.getD_eq_getElem?_getD, -List.length_eq_zero_iff, conjP])) ?_
  refine sx hX [.T] 4000 rfl (by (simp [-List.getD_eq_getElem?_getD, -List.length_eq_zero_iff, conjP])) ?_
  refine sx hX [.F] 4000 rfl (by (simp [-List.getD_eq_getElem?_getD, -List.length_eq_zero_iff, conjP, addOP])) ?_
  refine sx hX [.F] 4000 rfl (by (simp [-List.getD_eq_getElem?_getD, -List.length_eq_zero_iff, conjP, addOP])) ?_
  refine sx hX [.K, .F] 4000 rfl (by (simp [-List.getD_eq_getElem?_getD, -List.length_eq_zero_iff, conjP])) ?_
  (refine J ⟨i + 1, W, st, kd, wd, vl, ch, left⟩ hx rfl _ _ _ (sub_of [0, 1, 2, 3, 4, 5] rfl rfl rfl rfl ?tt ?hh ?ot ?ok); (case tt => (try simp only [ewi]); exact clhE); (case hh => exact clhE); (case ot => exact clkE); (case ok => exact clkE))
set_option maxHeartbeats 8000000 in
theorem en_full {p0 : EP} (h : XInv T R N x) (hin : x.i < N) (hi : x.i < 60) {y : RS} {lg : Bool} {kk : Int} {seq : Int} {j0 : Nat} {fd : Int} {hd : Bool} {tm pl sn fl bk ep tp : Int} {tl : Bool} (hs : y.s = ⟨false, lg, kk, 0, seq, j0, fd, hd, tm, 15, pl, sn, fl, bk, ep, tp, tl⟩) (b : BI T R (40 * (x.i : Int) + 2 * ((T + 7 : Nat) : Int)) y.W y.st) (d : DInv T (sfT T R) y.W (cf3 none none none)) (sm : sameW T x.W y.W) (J : EB p0 T R N cap o x.i ρ w I) :
    SS (hXEq p0) (At ρ w) (Is .tt [.obj (.rows N 4 (actR o)), pinE RTV]) ⟨[], [], Tryz.f9, Tryz.f9.ntmps, [.obj (.rows N 4 (actR o)), pinE RTV], contF Tryz.f9 33 [I], [(1, .slice 0 0 N cap), (5, .tt), (6, .ptr 2 0), (7, .ptr 3 0), (9, .slice 5 0 T T), (10, .int .i64 (x.i : Int)), (11, .int .i64 key), (12, .int .i64 (-1)), (18, .ptr 7 0)], eyH N o T R x.left y⟩ := by
  have hx := fun kd' wd' vl' ch' => x_same h hin hi b d sm (kd' := kd') (wd' := wd') (vl' := vl') (ch' := ch')
  obtain ⟨i, W9, st9, kd9, wd9, vl9, ch9, left⟩ := x
  obtain ⟨j, W, st, kd, wd, vl, ch, s⟩ := y
  dsimp only at hs hin hi sm b d hx
  subst hs
  have hx := hx kd wd vl ch
  have ewi : IntKind.i64.wrap ((i : Int) + 1) = ((i + 1 : Nat) : Int) := by rw [wi64 (by omega) (by omega)]; omega
  have hX := hXEq p0
  dsimp only [eyH, hdE, ruE, ruC, hoC, nxV, cond_true, cond_false]
  refine sx hX [] 4000 rfl (by (simp [-List.getD_eq_getElem?_getD, -List.length_eq_zero_iff, conjP])) ?_
  refine sx hX [.F] 4000 rfl (by (simp [-List.getD_eq_getElem?_getD, -List.length_eq_zero_iff, conjP, addOP])) ?_
  refine sx hX [.T] 4000 rfl (by (simp [-List.getD_eq_getElem?_getD, -List.length_eq_zero_iff, conjP])) ?_
  refine sx hX [.T] 4000 rfl (by (simp [-List.getD_eq_getElem?_getD, -List.length_eq_zero_iff, conjP])) ?_
  refine sx hX [.F] 4000 rfl (by (simp [-List.getD_eq_getElem?_getD, -List.length_eq_zero_iff, conjP, addOP])) ?_
  refine sx hX [.K, .F] 4000 rfl (by (simp [-List.getD_eq_getElem?_getD, -List.length_eq_zero_iff, conjP])) ?_
  (refine J ⟨i + 1, W, st, kd, wd, vl, ch, left⟩ hx rfl _ _ _ (sub_of [0, 1, 2, 3, 4, 5] rfl rfl rfl rfl ?tt ?hh ?ot ?ok); (case tt => (try simp only [ewi]); exact clhE); (case hh => exact clhE); (case ot => exact clkE); (case ok => exact clkE))
set_option maxHeartbeats 8000000 in
theorem en_made {p0 : EP} (h : XInv T R N x) (hin : x.i < N) (hi : x.i < 60) {y : RS} {p : Nat} {lg : Bool} {kk : Int} {seq : Int} {j0 : Nat} {fd : Int} {hd : Bool} {tm pl sn fl bk : Int} (hs : y.s = ⟨false, lg, kk, 0, seq, j0, fd, hd, tm, 0, pl, sn, fl, bk, (x.left.getD p 0), (p : Int), (o x.i).2.2.2⟩) (b : BI T R (40 * (x.i : Int) + 2 * ((T + 7 : Nat) : Int)) y.W y.st) (d : DInv T (sfT T R) y.W (cf3 none none none)) (hp : p < T) (hkk : 1 ≤ key ∧ key ≤ 6) (sm : setD T x.W y.W p (enK key (o x.i).2.2.2) (bornW (x.W.getD (cP T p) 0))) (J : EB p0 T R N cap o x.i ρ w I) :
    SS (hXEq p0) (At ρ w) (Is .tt [.obj (.rows N 4 (actR o)), pinE RTV]) ⟨[], [], Tryz.f9, Tryz.f9.ntmps, [.obj (.rows N 4 (actR o)), pinE RTV], contF Tryz.f9 33 [I], [(1, .slice 0 0 N cap), (5, .tt), (6, .ptr 2 0), (7, .ptr 3 0), (9, .slice 5 0 T T), (10, .int .i64 (x.i : Int)), (11, .int .i64 key), (12, .int .i64 (-1)), (18, .ptr 7 0)], eyH N o T R x.left y⟩ := by
  have hx := fun kd' wd' vl' ch' => x_made h hin hi b d sm (kd' := kd') (wd' := wd') (vl' := vl') (ch' := ch')
  obtain ⟨i, W9, st9, kd9, wd9, vl9, ch9, left⟩ := x
  obtain ⟨j, W, st, kd, wd, vl, ch, s⟩ := y
  dsimp only at hs hin hi sm b d hx
  subst hs
  have hx := hx kd wd vl ch
  have ewi : IntKind.i64.wrap ((i : Int) + 1) = ((i + 1 : Nat) : Int) := by rw [wi64 (by omega) (by omega)]; omega
  have hwp := (sm p hp).1
  rw [if_pos rfl] at hwp
  obtain ⟨z1, z2, _⟩ := enK_is (lg := (o i).2.2.2) hkk.1 hkk.2
  have ek : kyW (W.getD (eP p) 0) = key := by rw [hwp]; unfold kyW; rw [if_pos z1, z2]
  have e' := h.e p hp
  have t1 := b.t1
  have t4 := b.t4
  have hr := right_TR t1 t4 b.r1 b.r8
  have hl := b.hl
  have en := ent_at (R := R) hp
  have el := eP_lt' hl hp
  have w0 := (b.hw (eP p)).1
  have w1 := (b.hw (eP p)).2
  have hl5 : W.length ≤ 5000 := by omega
  have epl : (p : Int) < (left.length : Int) := by have := h.l; dsimp only at this; omega
  have pT : ¬ (T : Int) ≤ (p : Int) := by omega
  have hin1 : (i : Int) < (N : Int) := by omega
  have hX := hXEq p0
  dsimp only [eyH, hdE, ruE, ruC, hoC, nxV, cond_true, cond_false]
  refine sx hX [] 4000 rfl (by (simp [-List.getD_eq_getElem?_getD, -List.length_eq_zero_iff, conjP])) ?_
  refine sx hX [.F] 4000 rfl (by (simp [-List.getD_eq_getElem?_getD, -List.length_eq_zero_iff, conjP, addOP])) ?_
  refine sx hX [.T] 4000 rfl (by (simp [-List.getD_eq_getElem?_getD, -List.length_eq_zero_iff, conjP, addOP])) ?_
  refine sx hX [.F] 4000 rfl (by (simp [-List.getD_eq_getElem?_getD, -List.length_eq_zero_iff, conjP, addOP])) ?_
  refine sx hX [.K, .T, .K, .F, .K, .K, .F, .K, .K, .F, .K, .K, .K, .K, .F] 4000 rfl (by (simp [-List.getD_eq_getElem?_getD, -List.length_eq_zero_iff, conjP, getH, HE.so, hr, en, el, w0, w1, hl5, pT, hin, hin1, Int.toNat_natCast, cellOff] <;> (first | omega | ((repeat' (refine And.intro ?_ ?_)) <;> (first | omega | exact decide_eq_false (by omega) | exact decide_eq_true (by omega)))))) ?_
  refine sx hX [.F] 4000 rfl (by (simp [-List.getD_eq_getElem?_getD, -List.length_eq_zero_iff, conjP, addOP, en, ek, Int.toNat_natCast, cellOff])) ?_
  (refine J ⟨i + 1, W, st, kd, wd, vl, ch, left⟩ hx rfl _ _ _ (sub_of [0, 1, 2, 3, 4, 5] rfl rfl rfl rfl ?tt ?hh ?ot ?ok); (case tt => (try simp only [ewi]); exact clhE); (case hh => exact clhE); (case ot => exact clkE); (case ok => exact clkE))
end
end Go.Proofs.YtkkddjchkkaagaaGreatDoor
