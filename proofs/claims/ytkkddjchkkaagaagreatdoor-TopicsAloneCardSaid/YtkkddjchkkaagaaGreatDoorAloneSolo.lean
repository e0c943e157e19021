/- TopicsAlone: a run that goes on alone. -/
import Derived.Test.YtkkddjchkkaagaaGreatDoorAloneBusy
namespace Go.Proofs.YtkkddjchkkaagaaGreatDoor
open Go Go.Hx
set_option maxRecDepth 8000
def ctTn (p : TP) : Nat → Option Hx.Spec
  | 54 => some (begS p.T p.back)
  | 55 => some (tStS false p.T p.R p.sf p.s p.r)
  | 56 => some (tStS true p.T p.R p.sf p.s p.r)
  | _ => none
theorem ctTn_ok (p : TP) : ∀ f s args H ob V L, ctTn p f = some s → s args H = some (ob, V, L) → AllP ob → Gives Tryz.prog f args H (Is V L) := by
  intro f s args H ob V L h hs ho
  unfold ctTn at h
  split at h
  · simp at h; subst h; exact begS_ok hs ho
  · simp at h; subst h; exact tStS_ok hs ho
  · simp at h; subst h; exact tStS_ok hs ho
  · simp at h
noncomputable def XTn (p : TP) : Tabs := tabs tr ft xt (fun _ => none) (ctTn p) 0
theorem hXTn (p : TP) : TOk Tryz.prog (XTn p) := ⟨hTE, hFT, (ctTn_ok p), hXT, fun t ks h => by simp [XTn, tabs] at h, mixed⟩
def ctTo : Nat → Option Hx.Spec
  | 53 => some (arWordsS)
  | _ => none
theorem ctTo_ok : ∀ f s args H ob V L, ctTo f = some s → s args H = some (ob, V, L) → AllP ob → Gives Tryz.prog f args H (Is V L) := by
  intro f s args H ob V L h hs ho
  unfold ctTo at h
  split at h
  · simp at h; subst h; exact arWordsS_ok hs ho
  · simp at h
noncomputable def XTq : Tabs := tabs tr ft xt (fun _ => none) ctTo 0
theorem hXTq : TOk Tryz.prog (XTq) := ⟨hTE, hFT, ctTo_ok, hXT, fun t ks h => by simp [XTq, tabs] at h, mixed⟩
structure BS where
  (n W : List Int) (st kd wd vl : Int) (ch : Bool) (s : TS) (p : Value) (k : Int) (j : Nat)
def bslT (x : BS) : List (Nat × SV) := [(7, .tt), (8, .ptr 2 0), (9, .ptr 3 0), (17, .ptr 5 0), (18, .int .i64 (x.j : Int))]
def bslH (bb : Bool) (N : Nat) (o : Nat → Int × Int × Bool × Bool) (T : Nat) (R : Int) (x : BS) : List HE := scE bb N o :: pinE RTV :: cfE T R :: AOx 4 x.W x.st x.kd x.wd x.vl x.ch :: WO x.W :: clE (some x.s) 7 x.p x.k :: hdE T R (some x.s) 7 6 :: ruE (some x.s) 6 :: []
structure BInv2 (T : Nat) (R : Int) (x : BS) : Prop where
  b : BI T R (300 + 2 * (x.j : Int)) x.W x.st
  c : TC T R (300 + 2 * (x.j : Int)) x.s
  m : (x.j : Int) + mT T R x.s x.W ≤ (T : Int) + 4 * R + 6
def alS (q : Int) : List (Nat × SV) := [(2, .int .i64 q), (7, .tt), (8, .ptr 2 0), (9, .ptr 3 0), (11, .slice 5 0 3 3)]
theorem clhB {P : Prop} (h : P := by repeat' (first | exact rfl | exact trivial | exact sim_refl _ | exact simO_refl _ | exact subE_same rfl ren_scE | exact subE_hdE rfl rfl rfl | exact subE_ruE rfl rfl | exact sim_crP rfl | exact sim_rmP rfl | assumption | refine And.intro ?_ ?_)) : P := h
theorem clkB {P : Prop} (h : P := by repeat' (first | exact rfl | exact trivial | exact okE_scE | exact okE_hdE (i := 6) rfl rfl | exact okE_ruE (h := 7) rfl | exact okE_ruE (T := 0) (R := 0) (h := 7) rfl | exact okP_crP (i := 6) rfl | exact okP_rmP (i := 6) rfl | refine And.intro ?_ ?_)) : P := h
section
variable {bb : Bool} {T : Nat} {R q : Int} {N : Nat} {o : Nat → Int × Int × Bool × Bool} {ρ : Nat → Nat × Nat} {w : World} {I : Act → World → Prop}
abbrev BJ (p : TP) (bb : Bool) (T : Nat) (R : Int) (N : Nat) (o : Nat → Int × Int × Bool × Bool) (x : BS) (ρ : Nat → Nat × Nat) (w : World) (I : Act → World → Prop) : Prop :=
  ∀ x', BInv2 T R x' → x'.j = x.j + 1 → ∀ cs TT H, Sub (FEnv Tryz.prog (XTn p).TE (hXTn p).te Tryz.f7 Tryz.f7.ntmps [scE bb N o, pinE RTV] (Is .tt [scE bb N o, pinE RTV]) ρ w) TT H (bslT x') (bslH bb N o T R x') →
    SS (hXTn p) (At ρ w) (Is .tt [scE bb N o, pinE RTV]) ⟨cs, [], Tryz.f7, Tryz.f7.ntmps, [scE bb N o, pinE RTV], downLp (contF Tryz.f7 24 [I]), TT, H⟩
abbrev BG (p : TP) (bb : Bool) (T : Nat) (R : Int) (N : Nat) (o : Nat → Int × Int × Bool × Bool) (x : BS) (ρ : Nat → Nat × Nat) (w : World) (I : Act → World → Prop) : Prop :=
  SS (hXTn p) (At ρ w) (Is .tt [scE bb N o, pinE RTV]) ⟨[], [], Tryz.f7, Tryz.f7.ntmps, [scE bb N o, pinE RTV], contF Tryz.f7 24 [I], bslT x, bslH bb N o T R x⟩
set_option maxHeartbeats 4000000 in
theorem bscn {x : BS} (h : BInv2 T R x) {lg : Bool} {key : Int} {ph : Nat} {seq : Int} {j0 : Nat} {fd : Int} {hd : Bool} {tm er pl sn fl bk ep tp : Int} {tl : Bool} (hc : x.s = ⟨false, lg, key, ph, seq, j0, fd, hd, tm, er, pl, sn, fl, bk, ep, tp, tl⟩) {r : TR} (hst : tStep T R (sfT T R key) ⟨false, lg, key, ph, seq, j0, fd, hd, tm, er, pl, sn, fl, bk, ep, tp, tl⟩ x.W x.st = r) (e0 : ¬ r.s.ph = 0)
    (J : ∀ p, BJ p bb T R N o x ρ w I) : ∃ p, BG p bb T R N o x ρ w I := by
  obtain ⟨n, W, st, kd, wd, vl, ch, s, p, k, j⟩ := x
  obtain ⟨hb, hC, hm⟩ := h
  dsimp only at hc hst hb hC hm
  subst hc
  have t1 := hb.t1
  have t4 := hb.t4
  have r1 := hb.r1
  have r8 := hb.r8
  have hmp := mT_pos (W := W) (tb_of hb hC)
  have hP : TPre T R (sfT T R key) ⟨false, lg, key, ph, seq, j0, fd, hd, tm, er, pl, sn, fl, bk, ep, tp, tl⟩ W st := pre_of hb hC
  have kk := step_k hb hC (by omega)
  have hdec := fun e => mT_dec (W := W) (st := st) (start := sfT T R key) (tb_of hb hC) hC.p1 hC.p7 e
  dsimp only at kk
  rw [hst] at kk hdec
  have hdec := hdec e0
  obtain ⟨⟨rm', lg', key', ph', seq', j', fd', hd', tm', er', pl', sn', fl', bk', ep', tp', tl'⟩, W', kd', wd', vl', ch'⟩ := r
  obtain rfl : rm' = false := kk.rm
  dsimp only at e0
  have ej1 : IntKind.i64.wrap (4 * R) = 4 * R := wi64 (by omega) (by omega)
  have ej2 : IntKind.i64.wrap ((T : Int) + 4 * R) = (T : Int) + 4 * R := wi64 (by omega) (by omega)
  have ej3 : IntKind.i64.wrap ((T : Int) + 4 * R + 6) = (T : Int) + 4 * R + 6 := wi64 (by omega) (by omega)
  have hlt : (j : Int) < (T : Int) + 4 * R + 6 := by omega
  have ewj : IntKind.i64.wrap ((j : Int) + 1) = ((j + 1 : Nat) : Int) := by rw [wi64 (by omega) (by omega)]; omega
  refine ⟨⟨T, R, sfT T R key, 0, false, false, ⟨false, lg, key, ph, seq, j0, fd, hd, tm, er, pl, sn, fl, bk, ep, tp, tl⟩, ⟨⟨false, lg', key', ph', seq', j', fd', hd', tm', er', pl', sn', fl', bk', ep', tp', tl'⟩, W', kd', wd', vl', ch'⟩⟩, ?_⟩
  have hX := hXTn ⟨T, R, sfT T R key, 0, false, false, ⟨false, lg, key, ph, seq, j0, fd, hd, tm, er, pl, sn, fl, bk, ep, tp, tl⟩, ⟨⟨false, lg', key', ph', seq', j', fd', hd', tm', er', pl', sn', fl', bk', ep', tp', tl'⟩, W', kd', wd', vl', ch'⟩⟩
  dsimp only [BG, bslT, bslH]
  refine sx hX [] 4000 rfl (by (simp [-List.getD_eq_getElem?_getD, -List.length_eq_zero_iff, conjP])) ?_
  refine sx hX [.T] 4000 rfl (by (simp [-List.getD_eq_getElem?_getD, -List.length_eq_zero_iff, conjP, hP, hst, ej1, ej2, ej3, hlt, ruC, cond_false])) ?_
  refine sx hX [.F] 4000 rfl (by (simp [-List.getD_eq_getElem?_getD, -List.length_eq_zero_iff, conjP, addOP, e0])) ?_
  (refine J _ ⟨n, W', st + 1, kd', wd', vl', ch', ⟨false, lg', key', ph', seq', j', fd', hd', tm', er', pl', sn', fl', bk', ep', tp', tl'⟩, p, k, j + 1⟩ ?iv rfl _ _ _ (sub_of [0, 1, 2, 3, 4, 5, 6, 7] rfl rfl rfl (by cases bb <;> rfl) ?tt ?hh ?ot ?ok); (case tt => simp only [ewj]; exact clhB); (case hh => exact clhB); (case ot => exact clkB); (case ok => exact clkB); (case iv => exact ⟨kk.b.mono (by dsimp only; omega) (by dsimp only; omega), (kk.c e0).mono (by dsimp only; omega), by have := hdec.1; dsimp only at this ⊢; omega⟩))
set_option maxHeartbeats 4000000 in
theorem bscd {x : BS} (h : BInv2 T R x) {lg : Bool} {key : Int} {ph : Nat} {seq : Int} {j0 : Nat} {fd : Int} {hd : Bool} {tm er pl sn fl bk ep tp : Int} {tl : Bool} (hc : x.s = ⟨false, lg, key, ph, seq, j0, fd, hd, tm, er, pl, sn, fl, bk, ep, tp, tl⟩) {r : TR} (hst : tStep T R (sfT T R key) ⟨false, lg, key, ph, seq, j0, fd, hd, tm, er, pl, sn, fl, bk, ep, tp, tl⟩ x.W x.st = r) (e0 : r.s.ph = 0)
    : ∃ p, BG p bb T R N o x ρ w I := by
  obtain ⟨n, W, st, kd, wd, vl, ch, s, p, k, j⟩ := x
  obtain ⟨hb, hC, hm⟩ := h
  dsimp only at hc hst hb hC hm
  subst hc
  have t1 := hb.t1
  have t4 := hb.t4
  have r1 := hb.r1
  have r8 := hb.r8
  have hmp := mT_pos (W := W) (tb_of hb hC)
  have hP : TPre T R (sfT T R key) ⟨false, lg, key, ph, seq, j0, fd, hd, tm, er, pl, sn, fl, bk, ep, tp, tl⟩ W st := pre_of hb hC
  have kk := step_k hb hC (by omega)
  dsimp only at kk
  rw [hst] at kk
  obtain ⟨⟨rm', lg', key', ph', seq', j', fd', hd', tm', er', pl', sn', fl', bk', ep', tp', tl'⟩, W', kd', wd', vl', ch'⟩ := r
  obtain rfl : rm' = false := kk.rm
  dsimp only at e0
  subst e0
  have ej1 : IntKind.i64.wrap (4 * R) = 4 * R := wi64 (by omega) (by omega)
  have ej2 : IntKind.i64.wrap ((T : Int) + 4 * R) = (T : Int) + 4 * R := wi64 (by omega) (by omega)
  have ej3 : IntKind.i64.wrap ((T : Int) + 4 * R + 6) = (T : Int) + 4 * R + 6 := wi64 (by omega) (by omega)
  have hlt : (j : Int) < (T : Int) + 4 * R + 6 := by omega
  have ewj : IntKind.i64.wrap ((j : Int) + 1) = ((j + 1 : Nat) : Int) := by rw [wi64 (by omega) (by omega)]; omega
  refine ⟨⟨T, R, sfT T R key, 0, false, false, ⟨false, lg, key, ph, seq, j0, fd, hd, tm, er, pl, sn, fl, bk, ep, tp, tl⟩, ⟨⟨false, lg', key', 0, seq', j', fd', hd', tm', er', pl', sn', fl', bk', ep', tp', tl'⟩, W', kd', wd', vl', ch'⟩⟩, ?_⟩
  have hX := hXTn ⟨T, R, sfT T R key, 0, false, false, ⟨false, lg, key, ph, seq, j0, fd, hd, tm, er, pl, sn, fl, bk, ep, tp, tl⟩, ⟨⟨false, lg', key', 0, seq', j', fd', hd', tm', er', pl', sn', fl', bk', ep', tp', tl'⟩, W', kd', wd', vl', ch'⟩⟩
  dsimp only [BG, bslT, bslH]
  refine sx hX [] 4000 rfl (by (simp [-List.getD_eq_getElem?_getD, -List.length_eq_zero_iff, conjP])) ?_
  refine sx hX [.T] 4000 rfl (by (simp [-List.getD_eq_getElem?_getD, -List.length_eq_zero_iff, conjP, hP, hst, ej1, ej2, ej3, hlt, ruC, cond_false])) ?_
  refine sx hX [.T] 4000 rfl (by (simp [-List.getD_eq_getElem?_getD, -List.length_eq_zero_iff, conjP, addOP])) ?_
  (refine ss_end hX [0, 1] rfl rfl trivial rfl rfl rfl (by cases bb <;> rfl) ?tt ?hh ?ot ?ok; (case tt => exact clhB); (case hh => exact clhB); (case ot => exact clkB); (case ok => exact clkB))
set_option maxHeartbeats 4000000 in
theorem bsrn {x : BS} (h : BInv2 T R x) {lg : Bool} {key : Int} {ph : Nat} {seq : Int} {j0 : Nat} {fd : Int} {hd : Bool} {tm er pl sn fl bk ep tp : Int} {tl : Bool} (hc : x.s = ⟨true, lg, key, ph, seq, j0, fd, hd, tm, er, pl, sn, fl, bk, ep, tp, tl⟩) {r : TR} (hst : tStep T R (sfT T R key) ⟨true, lg, key, ph, seq, j0, fd, hd, tm, er, pl, sn, fl, bk, ep, tp, tl⟩ x.W x.st = r) (e0 : ¬ r.s.ph = 0)
    (J : ∀ p, BJ p bb T R N o x ρ w I) : ∃ p, BG p bb T R N o x ρ w I := by
  obtain ⟨n, W, st, kd, wd, vl, ch, s, p, k, j⟩ := x
  obtain ⟨hb, hC, hm⟩ := h
  dsimp only at hc hst hb hC hm
  subst hc
  have t1 := hb.t1
  have t4 := hb.t4
  have r1 := hb.r1
  have r8 := hb.r8
  have hmp := mT_pos (W := W) (tb_of hb hC)
  have hP : TPre T R (sfT T R key) ⟨true, lg, key, ph, seq, j0, fd, hd, tm, er, pl, sn, fl, bk, ep, tp, tl⟩ W st := pre_of hb hC
  have kk := step_k hb hC (by omega)
  have hdec := fun e => mT_dec (W := W) (st := st) (start := sfT T R key) (tb_of hb hC) hC.p1 hC.p7 e
  dsimp only at kk
  rw [hst] at kk hdec
  have hdec := hdec e0
  obtain ⟨⟨rm', lg', key', ph', seq', j', fd', hd', tm', er', pl', sn', fl', bk', ep', tp', tl'⟩, W', kd', wd', vl', ch'⟩ := r
  obtain rfl : rm' = true := kk.rm
  dsimp only at e0
  have ej1 : IntKind.i64.wrap (4 * R) = 4 * R := wi64 (by omega) (by omega)
  have ej2 : IntKind.i64.wrap ((T : Int) + 4 * R) = (T : Int) + 4 * R := wi64 (by omega) (by omega)
  have ej3 : IntKind.i64.wrap ((T : Int) + 4 * R + 6) = (T : Int) + 4 * R + 6 := wi64 (by omega) (by omega)
  have hlt : (j : Int) < (T : Int) + 4 * R + 6 := by omega
  have ewj : IntKind.i64.wrap ((j : Int) + 1) = ((j + 1 : Nat) : Int) := by rw [wi64 (by omega) (by omega)]; omega
  refine ⟨⟨T, R, sfT T R key, 0, false, false, ⟨true, lg, key, ph, seq, j0, fd, hd, tm, er, pl, sn, fl, bk, ep, tp, tl⟩, ⟨⟨true, lg', key', ph', seq', j', fd', hd', tm', er', pl', sn', fl', bk', ep', tp', tl'⟩, W', kd', wd', vl', ch'⟩⟩, ?_⟩
  have hX := hXTn ⟨T, R, sfT T R key, 0, false, false, ⟨true, lg, key, ph, seq, j0, fd, hd, tm, er, pl, sn, fl, bk, ep, tp, tl⟩, ⟨⟨true, lg', key', ph', seq', j', fd', hd', tm', er', pl', sn', fl', bk', ep', tp', tl'⟩, W', kd', wd', vl', ch'⟩⟩
  dsimp only [BG, bslT, bslH]
  refine sx hX [] 4000 rfl (by (simp [-List.getD_eq_getElem?_getD, -List.length_eq_zero_iff, conjP])) ?_
  refine sx hX [.T] 4000 rfl (by (simp [-List.getD_eq_getElem?_getD, -List.length_eq_zero_iff, conjP, hP, hst, ej1, ej2, ej3, hlt, ruC, cond_true])) ?_
  refine sx hX [.F] 4000 rfl (by (simp [-List.getD_eq_getElem?_getD, -List.length_eq_zero_iff, conjP, addOP, e0])) ?_
  (refine J _ ⟨n, W', st + 1, kd', wd', vl', ch', ⟨true, lg', key', ph', seq', j', fd', hd', tm', er', pl', sn', fl', bk', ep', tp', tl'⟩, p, k, j + 1⟩ ?iv rfl _ _ _ (sub_of [0, 1, 2, 3, 4, 5, 6, 7] rfl rfl rfl (by cases bb <;> rfl) ?tt ?hh ?ot ?ok); (case tt => simp only [ewj]; exact clhB); (case hh => exact clhB); (case ot => exact clkB); (case ok => exact clkB); (case iv => exact ⟨kk.b.mono (by dsimp only; omega) (by dsimp only; omega), (kk.c e0).mono (by dsimp only; omega), by have := hdec.1; dsimp only at this ⊢; omega⟩))
set_option maxHeartbeats 4000000 in
theorem bsrd {x : BS} (h : BInv2 T R x) {lg : Bool} {key : Int} {ph : Nat} {seq : Int} {j0 : Nat} {fd : Int} {hd : Bool} {tm er pl sn fl bk ep tp : Int} {tl : Bool} (hc : x.s = ⟨true, lg, key, ph, seq, j0, fd, hd, tm, er, pl, sn, fl, bk, ep, tp, tl⟩) {r : TR} (hst : tStep T R (sfT T R key) ⟨true, lg, key, ph, seq, j0, fd, hd, tm, er, pl, sn, fl, bk, ep, tp, tl⟩ x.W x.st = r) (e0 : r.s.ph = 0)
    : ∃ p, BG p bb T R N o x ρ w I := by
  obtain ⟨n, W, st, kd, wd, vl, ch, s, p, k, j⟩ := x
  obtain ⟨hb, hC, hm⟩ := h
  dsimp only at hc hst hb hC hm
  subst hc
  have t1 := hb.t1
  have t4 := hb.t4
  have r1 := hb.r1
  have r8 := hb.r8
  have hmp := mT_pos (W := W) (tb_of hb hC)
  have hP : TPre T R (sfT T R key) ⟨true, lg, key, ph, seq, j0, fd, hd, tm, er, pl, sn, fl, bk, ep, tp, tl⟩ W st := pre_of hb hC
  have kk := step_k hb hC (by omega)
  dsimp only at kk
  rw [hst] at kk
  obtain ⟨⟨rm', lg', key', ph', seq', j', fd', hd', tm', er', pl', sn', fl', bk', ep', tp', tl'⟩, W', kd', wd', vl', ch'⟩ := r
  obtain rfl : rm' = true := kk.rm
  dsimp only at e0
  subst e0
  have ej1 : IntKind.i64.wrap (4 * R) = 4 * R := wi64 (by omega) (by omega)
  have ej2 : IntKind.i64.wrap ((T : Int) + 4 * R) = (T : Int) + 4 * R := wi64 (by omega) (by omega)
  have ej3 : IntKind.i64.wrap ((T : Int) + 4 * R + 6) = (T : Int) + 4 * R + 6 := wi64 (by omega) (by omega)
  have hlt : (j : Int) < (T : Int) + 4 * R + 6 := by omega
  have ewj : IntKind.i64.wrap ((j : Int) + 1) = ((j + 1 : Nat) : Int) := by rw [wi64 (by omega) (by omega)]; omega
  refine ⟨⟨T, R, sfT T R key, 0, false, false, ⟨true, lg, key, ph, seq, j0, fd, hd, tm, er, pl, sn, fl, bk, ep, tp, tl⟩, ⟨⟨true, lg', key', 0, seq', j', fd', hd', tm', er', pl', sn', fl', bk', ep', tp', tl'⟩, W', kd', wd', vl', ch'⟩⟩, ?_⟩
  have hX := hXTn ⟨T, R, sfT T R key, 0, false, false, ⟨true, lg, key, ph, seq, j0, fd, hd, tm, er, pl, sn, fl, bk, ep, tp, tl⟩, ⟨⟨true, lg', key', 0, seq', j', fd', hd', tm', er', pl', sn', fl', bk', ep', tp', tl'⟩, W', kd', wd', vl', ch'⟩⟩
  dsimp only [BG, bslT, bslH]
  refine sx hX [] 4000 rfl (by (simp [-List.getD_eq_getElem?_getD, -List.length_eq_zero_iff, conjP])) ?_
  refine sx hX [.T] 4000 rfl (by (simp [-List.getD_eq_getElem?_getD, -List.length_eq_zero_iff, conjP, hP, hst, ej1, ej2, ej3, hlt, ruC, cond_true])) ?_
  refine sx hX [.T] 4000 rfl (by (simp [-List.getD_eq_getElem?_getD, -List.length_eq_zero_iff, conjP, addOP])) ?_
  (refine ss_end hX [0, 1] rfl rfl trivial rfl rfl rfl (by cases bb <;> rfl) ?tt ?hh ?ot ?ok; (case tt => exact clhB); (case hh => exact clhB); (case ot => exact clkB); (case ok => exact clkB))
theorem bs {x : BS} (h : BInv2 T R x) (J : ∀ p, BJ p bb T R N o x ρ w I) : ∃ p, BG p bb T R N o x ρ w I := by
  rcases hs : x.s with ⟨rm, lg, key, ph, seq, j0, fd, hd, tm, er, pl, sn, fl, bk, ep, tp, tl⟩
  rcases rm with _ | _
  · by_cases e0 : (tStep T R (sfT T R key) ⟨false, lg, key, ph, seq, j0, fd, hd, tm, er, pl, sn, fl, bk, ep, tp, tl⟩ x.W x.st).s.ph = 0
    · exact bscd h hs rfl e0
    · exact bscn h hs rfl e0 J
  · by_cases e0 : (tStep T R (sfT T R key) ⟨true, lg, key, ph, seq, j0, fd, hd, tm, er, pl, sn, fl, bk, ep, tp, tl⟩ x.W x.st).s.ph = 0
    · exact bsrd h hs rfl e0
    · exact bsrn h hs rfl e0 J
set_option maxHeartbeats 4000000 in
/-- The second loop. -/
theorem bloop {x : BS} (h : BInv2 T R x) (hj : x.j = 0) :
    SS hXTq (At ρ w) (Is .tt [scE bb N o, pinE RTV]) ⟨[], [], Tryz.f7, Tryz.f7.ntmps, [scE bb N o, pinE RTV], contF Tryz.f7 23 [], [(7, .tt), (8, .ptr 2 0), (9, .ptr 3 0), (17, .ptr 5 0)], bslH bb N o T R x⟩ := by
  have hX := hXTq
  obtain ⟨n, W, st, kd, wd, vl, ch, s, p, k, j⟩ := x
  dsimp only at hj
  subst hj
  refine sxb hX [.l] [] 4000 rfl trivial ?_
  refine ss_sub hX (T' := bslT ⟨n, W, st, kd, wd, vl, ch, s, p, k, 0⟩) (H' := bslH bb N o T R ⟨n, W, st, kd, wd, vl, ch, s, p, k, 0⟩) [0, 1, 2, 3, 4, 5, 6, 7] rfl rfl rfl (by cases bb <;> rfl) ?tt ?hh ?ot ?ok ?_
  case tt => exact clhB
  case hh => exact clhB
  case ot => exact clkB
  case ok => exact clkB
  refine ss_loop hX bslT (bslH bb N o T R) (BInv2 T R) (fun x => 1000 - x.j) ⟨n, W, st, kd, wd, vl, ch, s, p, k, 0⟩ h ?_
  intro x hx I back
  have hjm : x.j < 100 := by
    have := hx.m
    have := hx.b.t4
    have := hx.b.r8
    have := mT_pos (W := x.W) (tb_of hx.b hx.c)
    omega
  obtain ⟨p, hp⟩ := bs (bb := bb) (N := N) (o := o) (ρ := ρ) (w := w) (I := I) hx (fun p x' hx' hj' cs T H hsub => ss_sw (hXTn p) (sw_ss hX (back x' hx' (by show 1000 - x'.j < 1000 - x.j; omega) [] T H hsub)))
  refine sxb hX [.r 24] [] 100 rfl trivial ?_
  exact ss_sw hX (sw_ss (hXTn p) (cs := []) hp)
set_option maxHeartbeats 4000000 in
theorem bg0f {z : Tq} (hb : BI T R 300 z.W z.st) (ha : cMod 3 q = 0) (hc : z.c0 = none) (hbk : (ibits .and .i64 q 1 == 1) = false) :
    SS (hXTn ⟨T, R, 0, 0, false, false, t00, r00⟩) (At ρ w) (Is .tt [scE bb N o, pinE RTV]) ⟨[], [], Tryz.f7, Tryz.f7.ntmps, [scE bb N o, pinE RTV], contF Tryz.f7 21 [], alS q, tqH (scE bb N o) T R z []⟩ := by
  obtain ⟨W, st, kd, wd, vl, ch, c0, c1, c2, p0, p1, p2, k0, k1, k2⟩ := z
  dsimp only at hb hc
  subst hc
  have t1 := hb.t1
  have t4 := hb.t4
  have r1 := hb.r1
  have r8 := hb.r8
  have ha' : (IntKind.i64.wrap (q.tmod 3 + 3)).tmod 3 = 0 := ha
  obtain ⟨kq1, kq6⟩ := cRemB 1 6 q (by decide) (by decide) (by decide) (by decide)
  have hX := hXTn ⟨T, R, 0, 0, false, false, t00, r00⟩
  dsimp only [alS, tqH]
  refine sx hX [] 5 rfl (by first | exact trivial | simp [conjP]) ?_
  simp only [ha']
  refine sxb hX [.r 23] [] 4000 rfl (by (simp [-List.getD_eq_getElem?_getD, -List.length_eq_zero_iff, conjP, hbk, t1, t4, r1, r8, clO, crP, rmP])) ?_
  (refine ss_raw hX 6 2 rfl rfl fun v => ?_; have hC := new_tc hb (rm := false) (lg := false) kq1 (show cRem 1 6 q ≤ 6 by omega); have hl := bloop (bb := bb) (N := N) (o := o) (ρ := ρ) (w := w) (x := ⟨[], W, st, kd, wd, vl, ch, (newT false false (cRem 1 6 q)), v, cRem 1 6 q, 0⟩) ⟨hb, hC, by have := mT_max (W := W) (tb_of hb hC); dsimp only; omega⟩ rfl; refine ss_sub hX (T' := [(7, .tt), (8, .ptr 2 0), (9, .ptr 3 0), (17, .ptr 5 0)]) (H' := bslH bb N o T R ⟨[], W, st, kd, wd, vl, ch, (newT false false (cRem 1 6 q)), v, cRem 1 6 q, 0⟩) [0, 1, 2, 3, 4, 6, 15, 16] rfl rfl rfl (by cases bb <;> rfl) ?tt ?hh ?ot ?ok (ss_sw hX (sw_ss hXTq (cs := []) hl)); (case tt => exact clhB); (case hh => (try simp only [Bool.false_eq_true, if_false]); exact clhB); (case ot => exact clkB); (case ok => exact clkB))
set_option maxHeartbeats 4000000 in
theorem bg0t {z : Tq} (hb : BI T R 300 z.W z.st) (ha : cMod 3 q = 0) (hc : z.c0 = none) (hbk : (ibits .and .i64 q 1 == 1) = true) :
    SS (hXTn ⟨T, R, 0, 0, false, true, t00, r00⟩) (At ρ w) (Is .tt [scE bb N o, pinE RTV]) ⟨[], [], Tryz.f7, Tryz.f7.ntmps, [scE bb N o, pinE RTV], contF Tryz.f7 21 [], alS q, tqH (scE bb N o) T R z []⟩ := by
  obtain ⟨W, st, kd, wd, vl, ch, c0, c1, c2, p0, p1, p2, k0, k1, k2⟩ := z
  dsimp only at hb hc
  subst hc
  have t1 := hb.t1
  have t4 := hb.t4
  have r1 := hb.r1
  have r8 := hb.r8
  have ha' : (IntKind.i64.wrap (q.tmod 3 + 3)).tmod 3 = 0 := ha
  obtain ⟨kq1, kq6⟩ := cRemB 1 6 q (by decide) (by decide) (by decide) (by decide)
  have hX := hXTn ⟨T, R, 0, 0, false, true, t00, r00⟩
  dsimp only [alS, tqH]
  refine sx hX [] 5 rfl (by first | exact trivial | simp [conjP]) ?_
  simp only [ha']
  refine sxb hX [.r 23] [] 4000 rfl (by (simp [-List.getD_eq_getElem?_getD, -List.length_eq_zero_iff, conjP, hbk, t1, t4, r1, r8, clO, crP, rmP])) ?_
  (refine ss_raw hX 6 2 rfl rfl fun v => ?_; have hC := new_tc hb (rm := true) (lg := false) kq1 (show cRem 1 6 q ≤ 6 by omega); have hl := bloop (bb := bb) (N := N) (o := o) (ρ := ρ) (w := w) (x := ⟨[], W, st, kd, wd, vl, ch, (newT true false (cRem 1 6 q)), v, cRem 1 6 q, 0⟩) ⟨hb, hC, by have := mT_max (W := W) (tb_of hb hC); dsimp only; omega⟩ rfl; refine ss_sub hX (T' := [(7, .tt), (8, .ptr 2 0), (9, .ptr 3 0), (17, .ptr 5 0)]) (H' := bslH bb N o T R ⟨[], W, st, kd, wd, vl, ch, (newT true false (cRem 1 6 q)), v, cRem 1 6 q, 0⟩) [0, 1, 2, 3, 4, 6, 15, 16] rfl rfl rfl (by cases bb <;> rfl) ?tt ?hh ?ot ?ok (ss_sw hX (sw_ss hXTq (cs := []) hl)); (case tt => exact clhB); (case hh => (try simp only [if_true]); exact clhB); (case ot => exact clkB); (case ok => exact clkB))
set_option maxHeartbeats 4000000 in
theorem bo0c {z : Tq} (hb : BI T R 300 z.W z.st) (ha : cMod 3 q = 0) {lg : Bool} {key : Int} {ph : Nat} {seq : Int} {j : Nat} {fd : Int} {hd : Bool} {tm er pl sn fl bk ep tp : Int} {tl : Bool} (hc : z.c0 = some ⟨false, lg, key, ph, seq, j, fd, hd, tm, er, pl, sn, fl, bk, ep, tp, tl⟩) (hC : TC T R 300 ⟨false, lg, key, ph, seq, j, fd, hd, tm, er, pl, sn, fl, bk, ep, tp, tl⟩) :
    SS hXTq (At ρ w) (Is .tt [scE bb N o, pinE RTV]) ⟨[], [], Tryz.f7, Tryz.f7.ntmps, [scE bb N o, pinE RTV], contF Tryz.f7 21 [], alS q, tqH (scE bb N o) T R z []⟩ := by
  obtain ⟨W, st, kd, wd, vl, ch, c0, c1, c2, p0, p1, p2, k0, k1, k2⟩ := z
  dsimp only at hb hc
  subst hc
  have ha' : (IntKind.i64.wrap (q.tmod 3 + 3)).tmod 3 = 0 := ha
  have hX := hXTq
  have hl := bloop (bb := bb) (N := N) (o := o) (ρ := ρ) (w := w) (x := ⟨[], W, st, kd, wd, vl, ch, ⟨false, lg, key, ph, seq, j, fd, hd, tm, er, pl, sn, fl, bk, ep, tp, tl⟩, p0, k0, 0⟩) ⟨hb, hC, by have := mT_max (W := W) (tb_of hb hC); dsimp only; omega⟩ rfl
  dsimp only [alS, tqH]
  refine sx hX [] 5 rfl (by first | exact trivial | simp [conjP]) ?_
  simp only [ha']
  refine sxb hX [.r 23] [] 4000 rfl (by (simp [-List.getD_eq_getElem?_getD, -List.length_eq_zero_iff, conjP, addOP])) ?_
  (refine ss_sub hX (T' := [(7, .tt), (8, .ptr 2 0), (9, .ptr 3 0), (17, .ptr 5 0)]) (H' := bslH bb N o T R ⟨[], W, st, kd, wd, vl, ch, ⟨false, lg, key, ph, seq, j, fd, hd, tm, er, pl, sn, fl, bk, ep, tp, tl⟩, p0, k0, 0⟩) [0, 1, 2, 3, 4, 6, 9, 10] rfl rfl rfl (by cases bb <;> rfl) ?tt ?hh ?ot ?ok hl; (case tt => exact clhB); (case hh => exact clhB); (case ot => exact clkB); (case ok => exact clkB))
set_option maxHeartbeats 4000000 in
theorem bo0r {z : Tq} (hb : BI T R 300 z.W z.st) (ha : cMod 3 q = 0) {lg : Bool} {key : Int} {ph : Nat} {seq : Int} {j : Nat} {fd : Int} {hd : Bool} {tm er pl sn fl bk ep tp : Int} {tl : Bool} (hc : z.c0 = some ⟨true, lg, key, ph, seq, j, fd, hd, tm, er, pl, sn, fl, bk, ep, tp, tl⟩) (hC : TC T R 300 ⟨true, lg, key, ph, seq, j, fd, hd, tm, er, pl, sn, fl, bk, ep, tp, tl⟩) :
    SS hXTq (At ρ w) (Is .tt [scE bb N o, pinE RTV]) ⟨[], [], Tryz.f7, Tryz.f7.ntmps, [scE bb N o, pinE RTV], contF Tryz.f7 21 [], alS q, tqH (scE bb N o) T R z []⟩ := by
  obtain ⟨W, st, kd, wd, vl, ch, c0, c1, c2, p0, p1, p2, k0, k1, k2⟩ := z
  dsimp only at hb hc
  subst hc
  have ha' : (IntKind.i64.wrap (q.tmod 3 + 3)).tmod 3 = 0 := ha
  have hX := hXTq
  have hl := bloop (bb := bb) (N := N) (o := o) (ρ := ρ) (w := w) (x := ⟨[], W, st, kd, wd, vl, ch, ⟨true, lg, key, ph, seq, j, fd, hd, tm, er, pl, sn, fl, bk, ep, tp, tl⟩, p0, k0, 0⟩) ⟨hb, hC, by have := mT_max (W := W) (tb_of hb hC); dsimp only; omega⟩ rfl
  dsimp only [alS, tqH]
  refine sx hX [] 5 rfl (by first | exact trivial | simp [conjP]) ?_
  simp only [ha']
  refine sxb hX [.r 23] [] 4000 rfl (by (simp [-List.getD_eq_getElem?_getD, -List.length_eq_zero_iff, conjP, addOP])) ?_
  (refine ss_sub hX (T' := [(7, .tt), (8, .ptr 2 0), (9, .ptr 3 0), (17, .ptr 5 0)]) (H' := bslH bb N o T R ⟨[], W, st, kd, wd, vl, ch, ⟨true, lg, key, ph, seq, j, fd, hd, tm, er, pl, sn, fl, bk, ep, tp, tl⟩, p0, k0, 0⟩) [0, 1, 2, 3, 4, 6, 9, 10] rfl rfl rfl (by cases bb <;> rfl) ?tt ?hh ?ot ?ok hl; (case tt => exact clhB); (case hh => exact clhB); (case ot => exact clkB); (case ok => exact clkB))
set_option maxHeartbeats 4000000 in
theorem bg1f {z : Tq} (hb : BI T R 300 z.W z.st) (ha : cMod 3 q = 1) (hc : z.c1 = none) (hbk : (ibits .and .i64 q 1 == 1) = false) :
    SS (hXTn ⟨T, R, 0, 0, false, false, t00, r00⟩) (At ρ w) (Is .tt [scE bb N o, pinE RTV]) ⟨[], [], Tryz.f7, Tryz.f7.ntmps, [scE bb N o, pinE RTV], contF Tryz.f7 21 [], alS q, tqH (scE bb N o) T R z []⟩ := by
  obtain ⟨W, st, kd, wd, vl, ch, c0, c1, c2, p0, p1, p2, k0, k1, k2⟩ := z
  dsimp only at hb hc
  subst hc
  have t1 := hb.t1
  have t4 := hb.t4
  have r1 := hb.r1
  have r8 := hb.r8
  have ha' : (IntKind.i64.wrap (q.tmod 3 + 3)).tmod 3 = 1 := ha
  obtain ⟨kq1, kq6⟩ := cRemB 1 6 q (by decide) (by decide) (by decide) (by decide)
  have hX := hXTn ⟨T, R, 0, 0, false, false, t00, r00⟩
  dsimp only [alS, tqH]
  refine sx hX [] 5 rfl (by first | exact trivial | simp [conjP]) ?_
  simp only [ha']
  refine sxb hX [.r 23] [] 4000 rfl (by (simp [-List.getD_eq_getElem?_getD, -List.length_eq_zero_iff, conjP, hbk, t1, t4, r1, r8, clO, crP, rmP])) ?_
  (refine ss_raw hX 7 2 rfl rfl fun v => ?_; have hC := new_tc hb (rm := false) (lg := false) kq1 (show cRem 1 6 q ≤ 6 by omega); have hl := bloop (bb := bb) (N := N) (o := o) (ρ := ρ) (w := w) (x := ⟨[], W, st, kd, wd, vl, ch, (newT false false (cRem 1 6 q)), v, cRem 1 6 q, 0⟩) ⟨hb, hC, by have := mT_max (W := W) (tb_of hb hC); dsimp only; omega⟩ rfl; refine ss_sub hX (T' := [(7, .tt), (8, .ptr 2 0), (9, .ptr 3 0), (17, .ptr 5 0)]) (H' := bslH bb N o T R ⟨[], W, st, kd, wd, vl, ch, (newT false false (cRem 1 6 q)), v, cRem 1 6 q, 0⟩) [0, 1, 2, 3, 4, 7, 15, 16] rfl rfl rfl (by cases bb <;> rfl) ?tt ?hh ?ot ?ok (ss_sw hX (sw_ss hXTq (cs := []) hl)); (case tt => exact clhB); (case hh => (try simp only [Bool.false_eq_true, if_false]); exact clhB); (case ot => exact clkB); (case ok => exact clkB))
set_option maxHeartbeats 4000000 in
theorem bg1t {z : Tq} (hb : BI T R 300 z.W z.st) (ha : cMod 3 q = 1) (hc : z.c1 = none) (hbk : (ibits .and .i64 q 1 == 1) = true) :
    SS (hXTn ⟨T, R, 0, 0, false, true, t00, r00⟩) (At ρ w) (Is .tt [scE bb N o, pinE RTV]) ⟨[], [], Tryz.f7, Tryz.f7.ntmps, [scE bb N o, pinE RTV], contF Tryz.f7 21 [], alS q, tqH (scE bb N o) T R z []⟩ := by
  obtain ⟨W, st, kd, wd, vl, ch, c0, c1, c2, p0, p1, p2, k0, k1, k2⟩ := z
  dsimp only at hb hc
  subst hc
  have t1 := hb.t1
  have t4 := hb.t4
  have r1 := hb.r1
  have r8 := hb.r8
  have ha' : (IntKind.i64.wrap (q.tmod 3 + 3)).tmod 3 = 1 := ha
  obtain ⟨kq1, kq6⟩ := cRemB 1 6 q (by decide) (by decide) (by decide) (by decide)
  have hX := hXTn ⟨T, R, 0, 0, false, true, t00, r00⟩
  dsimp only [alS, tqH]
  refine sx hX [] 5 rfl (by first | exact trivial | simp [conjP]) ?_
  simp only [ha']
  refine sxb hX [.r 23] [] 4000 rfl (by (simp [-List.getD_eq_getElem?_getD, -List.length_eq_zero_iff, conjP, hbk, t1, t4, r1, r8, clO, crP, rmP])) ?_
  (refine ss_raw hX 7 2 rfl rfl fun v => ?_; have hC := new_tc hb (rm := true) (lg := false) kq1 (show cRem 1 6 q ≤ 6 by omega); have hl := bloop (bb := bb) (N := N) (o := o) (ρ := ρ) (w := w) (x := ⟨[], W, st, kd, wd, vl, ch, (newT true false (cRem 1 6 q)), v, cRem 1 6 q, 0⟩) ⟨hb, hC, by have := mT_max (W := W) (tb_of hb hC); dsimp only; omega⟩ rfl; refine ss_sub hX (T' := [(7, .tt), (8, .ptr 2 0), (9, .ptr 3 0), (17, .ptr 5 0)]) (H' := bslH bb N o T R ⟨[], W, st, kd, wd, vl, ch, (newT true false (cRem 1 6 q)), v, cRem 1 6 q, 0⟩) [0, 1, 2, 3, 4, 7, 15, 16] rfl rfl rfl (by cases bb <;> rfl) ?tt ?hh ?ot ?ok (ss_sw hX (sw_ss hXTq (cs := []) hl)); (case tt => exact clhB); (case hh => (try simp only [if_true]); exact clhB); (case ot => exact clkB); (case ok => exact clkB))
set_option maxHeartbeats 4000000 in
theorem bo1c {z : Tq} (hb : BI T R 300 z.W z.st) (ha : cMod 3 q = 1) {lg : Bool} {key : Int} {ph : Nat} {seq : Int} {j : Nat} {fd : Int} {hd : Bool} {tm er pl sn fl bk ep tp : Int} {tl : Bool} (hc : z.c1 = some ⟨false, lg, key, ph, seq, j, fd, hd, tm, er, pl, sn, fl, bk, ep, tp, tl⟩) (hC : TC T R 300 ⟨false, lg, key, ph, seq, j, fd, hd, tm, er, pl, sn, fl, bk, ep, tp, tl⟩) :
    SS hXTq (At ρ w) (Is .tt [scE bb N o, pinE RTV]) ⟨[], [], Tryz.f7, Tryz.f7.ntmps, [scE bb N o, pinE RTV], contF Tryz.f7 21 [], alS q, tqH (scE bb N o) T R z []⟩ := by
  obtain ⟨W, st, kd, wd, vl, ch, c0, c1, c2, p0, p1, p2, k0, k1, k2⟩ := z
  dsimp only at hb hc
  subst hc
  have ha' : (IntKind.i64.wrap (q.tmod 3 + 3)).tmod 3 = 1 := ha
  have hX := hXTq
  have hl := bloop (bb := bb) (N := N) (o := o) (ρ := ρ) (w := w) (x := ⟨[], W, st, kd, wd, vl, ch, ⟨false, lg, key, ph, seq, j, fd, hd, tm, er, pl, sn, fl, bk, ep, tp, tl⟩, p1, k1, 0⟩) ⟨hb, hC, by have := mT_max (W := W) (tb_of hb hC); dsimp only; omega⟩ rfl
  dsimp only [alS, tqH]
  refine sx hX [] 5 rfl (by first | exact trivial | simp [conjP]) ?_
  simp only [ha']
  refine sxb hX [.r 23] [] 4000 rfl (by (simp [-List.getD_eq_getElem?_getD, -List.length_eq_zero_iff, conjP, addOP])) ?_
  (refine ss_sub hX (T' := [(7, .tt), (8, .ptr 2 0), (9, .ptr 3 0), (17, .ptr 5 0)]) (H' := bslH bb N o T R ⟨[], W, st, kd, wd, vl, ch, ⟨false, lg, key, ph, seq, j, fd, hd, tm, er, pl, sn, fl, bk, ep, tp, tl⟩, p1, k1, 0⟩) [0, 1, 2, 3, 4, 7, 11, 12] rfl rfl rfl (by cases bb <;> rfl) ?tt ?hh ?ot ?ok hl; (case tt => exact clhB); (case hh => exact clhB); (case ot => exact clkB); (case ok => exact clkB))
set_option maxHeartbeats 4000000 in
theorem bo1r {z : Tq} (hb : BI T R 300 z.W z.st) (ha : cMod 3 q = 1) {lg : Bool} {key : Int} {ph : Nat} {seq : Int} {j : Nat} {fd : Int} {hd : Bool} {tm er pl sn fl bk ep tp : Int} {tl : Bool} (hc : z.c1 = some ⟨true, lg, key, ph, seq, j, fd, hd, tm, er, pl, sn, fl, bk, ep, tp, tl⟩) (hC : TC T R 300 ⟨true, lg, key, ph, seq, j, fd, hd, tm, er, pl, sn, fl, bk, ep, tp, tl⟩) :
    SS hXTq (At ρ w) (Is .tt [scE bb N o, pinE RTV]) ⟨[], [], Tryz.f7, Tryz.f7.ntmps, [scE bb N o, pinE RTV], contF Tryz.f7 21 [], alS q, tqH (scE bb N o) T R z []⟩ := by
  obtain ⟨W, st, kd, wd, vl, ch, c0, c1, c2, p0, p1, p2, k0, k1, k2⟩ := z
  dsimp only at hb hc
  subst hc
  have ha' : (IntKind.i64.wrap (q.tmod 3 + 3)).tmod 3 = 1 := ha
  have hX := hXTq
  have hl := bloop (bb := bb) (N := N) (o := o) (ρ := ρ) (w := w) (x := ⟨[], W, st, kd, wd, vl, ch, ⟨true, lg, key, ph, seq, j, fd, hd, tm, er, pl, sn, fl, bk, ep, tp, tl⟩, p1, k1, 0⟩) ⟨hb, hC, by have := mT_max (W := W) (tb_of hb hC); dsimp only; omega⟩ rfl
  dsimp only [alS, tqH]
  refine sx hX [] 5 rfl (by first | exact trivial | simp [conjP]) ?_
  simp only [ha']
  refine sxb hX [.r 23] [] 4000 rfl (by (simp [-List.getD_eq_getElem?_getD, -List.length_eq_zero_iff, conjP, addOP])) ?_
  (refine ss_sub hX (T' := [(7, .tt), (8, .ptr 2 0), (9, .ptr 3 0), (17, .ptr 5 0)]) (H' := bslH bb N o T R ⟨[], W, st, kd, wd, vl, ch, ⟨true, lg, key, ph, seq, j, fd, hd, tm, er, pl, sn, fl, bk, ep, tp, tl⟩, p1, k1, 0⟩) [0, 1, 2, 3, 4, 7, 11, 12] rfl rfl rfl (by cases bb <;> rfl) ?tt ?hh ?ot ?ok hl; (case tt => exact clhB); (case hh => exact clhB); (case ot => exact clkB); (case ok => exact clkB))
set_option maxHeartbeats 4000000 in
theorem bg2f {z : Tq} (hb : BI T R 300 z.W z.st) (ha : cMod 3 q = 2) (hc : z.c2 = none) (hbk : (ibits .and .i64 q 1 == 1) = false) :
    SS (hXTn ⟨T, R, 0, 0, false, false, t00, r00⟩) (At ρ w) (Is .tt [scE bb N o, pinE RTV]) ⟨[], [], Tryz.f7, Tryz.f7.ntmps, [scE bb N o, pinE RTV], contF Tryz.f7 21 [], alS q, tqH (scE bb N o) T R z []⟩ := by
  obtain ⟨W, st, kd, wd, vl, ch, c0, c1, c2, p0, p1, p2, k0, k1, k2⟩ := z
  dsimp only at hb hc
  subst hc
  have t1 := hb.t1
  have t4 := hb.t4
  have r1 := hb.r1
  have r8 := hb.r8
  have ha' : (IntKind.i64.wrap (q.tmod 3 + 3)).tmod 3 = 2 := ha
  obtain ⟨kq1, kq6⟩ := cRemB 1 6 q (by decide) (by decide) (by decide) (by decide)
  have hX := hXTn ⟨T, R, 0, 0, false, false, t00, r00⟩
  dsimp only [alS, tqH]
  refine sx hX [] 5 rfl (by first | exact trivial | simp [conjP]) ?_
  simp only [ha']
  refine sxb hX [.r 23] [] 4000 rfl (by (simp [-List.getD_eq_getElem?_getD, -List.length_eq_zero_iff, conjP, hbk, t1, t4, r1, r8, clO, crP, rmP])) ?_
  (refine ss_raw hX 8 2 rfl rfl fun v => ?_; have hC := new_tc hb (rm := false) (lg := false) kq1 (show cRem 1 6 q ≤ 6 by omega); have hl := bloop (bb := bb) (N := N) (o := o) (ρ := ρ) (w := w) (x := ⟨[], W, st, kd, wd, vl, ch, (newT false false (cRem 1 6 q)), v, cRem 1 6 q, 0⟩) ⟨hb, hC, by have := mT_max (W := W) (tb_of hb hC); dsimp only; omega⟩ rfl; refine ss_sub hX (T' := [(7, .tt), (8, .ptr 2 0), (9, .ptr 3 0), (17, .ptr 5 0)]) (H' := bslH bb N o T R ⟨[], W, st, kd, wd, vl, ch, (newT false false (cRem 1 6 q)), v, cRem 1 6 q, 0⟩) [0, 1, 2, 3, 4, 8, 15, 16] rfl rfl rfl (by cases bb <;> rfl) ?tt ?hh ?ot ?ok (ss_sw hX (sw_ss hXTq (cs := []) hl)); (case tt => exact clhB); (case hh => (try simp only [Bool.false_eq_true, if_false]); exact clhB); (case ot => exact clkB); (case ok => exact clkB))
set_option maxHeartbeats 4000000 in
theorem bg2t {z : Tq} (hb : BI T R 300 z.W z.st) (ha : cMod 3 q = 2) (hc : z.c2 = none) (hbk : (ibits .and .i64 q 1 == 1) = true) :
    SS (hXTn ⟨T, R, 0, 0, false, true, t00, r00⟩) (At ρ w) (Is .tt [scE bb N o, pinE RTV]) ⟨[], [], Tryz.f7, Tryz.f7.ntmps, [scE bb N o, pinE RTV], contF Tryz.f7 21 [], alS q, tqH (scE bb N o) T R z []⟩ := by
  obtain ⟨W, st, kd, wd, vl, ch, c0, c1, c2, p0, p1, p2, k0, k1, k2⟩ := z
  dsimp only at hb hc
  subst hc
  have t1 := hb.t1
  have t4 := hb.t4
  have r1 := hb.r1
  have r8 := hb.r8
  have ha' : (IntKind.i64.wrap (q.tmod 3 + 3)).tmod 3 = 2 := ha
  obtain ⟨kq1, kq6⟩ := cRemB 1 6 q (by decide) (by decide) (by decide) (by decide)
  have hX := hXTn ⟨T, R, 0, 0, false, true, t00, r00⟩
  dsimp only [alS, tqH]
  refine sx hX [] 5 rfl (by first | exact trivial | simp [conjP]) ?_
  simp only [ha']
  refine sxb hX [.r 23] [] 4000 rfl (by (simp [-List.getD_eq_getElem?_getD, -List.length_eq_zero_iff, conjP, hbk, t1, t4, r1, r8, clO, crP, rmP])) ?_
  (refine ss_raw hX 8 2 rfl rfl fun v => ?_; have hC := new_tc hb (rm := true) (lg := false) kq1 (show cRem 1 6 q ≤ 6 by omega); have hl := bloop (bb := bb) (N := N) (o := o) (ρ := ρ) (w := w) (x := ⟨[], W, st, kd, wd, vl, ch, (newT true false (cRem 1 6 q)), v, cRem 1 6 q, 0⟩) ⟨hb, hC, by have := mT_max (W := W) (tb_of hb hC); dsimp only; omega⟩ rfl; refine ss_sub hX (T' := [(7, .tt), (8, .ptr 2 0), (9, .ptr 3 0), (17, .ptr 5 0)]) (H' := bslH bb N o T R ⟨[], W, st, kd, wd, vl, ch, (newT true false (cRem 1 6 q)), v, cRem 1 6 q, 0⟩) [0, 1, 2, 3, 4, 8, 15, 16] rfl rfl rfl (by cases bb <;> rfl) ?tt ?hh ?ot ?ok (ss_sw hX (sw_ss hXTq (cs := []) hl)); (case tt => exact clhB); (case hh => (try simp only [if_true]); exact clhB); (case ot => exact clkB); (case ok => exact clkB))
set_option maxHeartbeats 4000000 in
theorem bo2c {z : Tq} (hb : BI T R 300 z.W z.st) (ha : cMod 3 q = 2) {lg : Bool} {key : Int} {ph : Nat} {seq : Int} {j : Nat} {fd : Int} {hd : Bool} {tm er pl sn fl bk ep tp : Int} {tl : Bool} (hc : z.c2 = some ⟨false, lg, key, ph, seq, j, fd, hd, tm, er, pl, sn, fl, bk, ep, tp, tl⟩) (hC : TC T R 300 ⟨false, lg, key, ph, seq, j, fd, hd, tm, er, pl, sn, fl, bk, ep, tp, tl⟩) :
    SS hXTq (At ρ w) (Is .tt [scE bb N o, pinE RTV]) ⟨[], [], Tryz.f7, Tryz.f7.ntmps, [scE bb N o, pinE RTV], contF Tryz.f7 21 [], alS q, tqH (scE bb N o) T R z []⟩ := by
  obtain ⟨W, st, kd, wd, vl, ch, c0, c1, c2, p0, p1, p2, k0, k1, k2⟩ := z
  dsimp only at hb hc
  subst hc
  have ha' : (IntKind.i64.wrap (q.tmod 3 + 3)).tmod 3 = 2 := ha
  have hX := hXTq
  have hl := bloop (bb := bb) (N := N) (o := o) (ρ := ρ) (w := w) (x := ⟨[], W, st, kd, wd, vl, ch, ⟨false, lg, key, ph, seq, j, fd, hd, tm, er, pl, sn, fl, bk, ep, tp, tl⟩, p2, k2, 0⟩) ⟨hb, hC, by have := mT_max (W := W) (tb_of hb hC); dsimp only; omega⟩ rfl
  dsimp only [alS, tqH]
  refine sx hX [] 5 rfl (by first | exact trivial | simp [conjP]) ?_
  simp only [ha']
  refine sxb hX [.r 23] [] 4000 rfl (by (simp [-List.getD_eq_getElem?_getD, -List.length_eq_zero_iff, conjP, addOP])) ?_
  (refine ss_sub hX (T' := [(7, .tt), (8, .ptr 2 0), (9, .ptr 3 0), (17, .ptr 5 0)]) (H' := bslH bb N o T R ⟨[], W, st, kd, wd, vl, ch, ⟨false, lg, key, ph, seq, j, fd, hd, tm, er, pl, sn, fl, bk, ep, tp, tl⟩, p2, k2, 0⟩) [0, 1, 2, 3, 4, 8, 13, 14] rfl rfl rfl (by cases bb <;> rfl) ?tt ?hh ?ot ?ok hl; (case tt => exact clhB); (case hh => exact clhB); (case ot => exact clkB); (case ok => exact clkB))
set_option maxHeartbeats 4000000 in
theorem bo2r {z : Tq} (hb : BI T R 300 z.W z.st) (ha : cMod 3 q = 2) {lg : Bool} {key : Int} {ph : Nat} {seq : Int} {j : Nat} {fd : Int} {hd : Bool} {tm er pl sn fl bk ep tp : Int} {tl : Bool} (hc : z.c2 = some ⟨true, lg, key, ph, seq, j, fd, hd, tm, er, pl, sn, fl, bk, ep, tp, tl⟩) (hC : TC T R 300 ⟨true, lg, key, ph, seq, j, fd, hd, tm, er, pl, sn, fl, bk, ep, tp, tl⟩) :
    SS hXTq (At ρ w) (Is .tt [scE bb N o, pinE RTV]) ⟨[], [], Tryz.f7, Tryz.f7.ntmps, [scE bb N o, pinE RTV], contF Tryz.f7 21 [], alS q, tqH (scE bb N o) T R z []⟩ := by
  obtain ⟨W, st, kd, wd, vl, ch, c0, c1, c2, p0, p1, p2, k0, k1, k2⟩ := z
  dsimp only at hb hc
  subst hc
  have ha' : (IntKind.i64.wrap (q.tmod 3 + 3)).tmod 3 = 2 := ha
  have hX := hXTq
  have hl := bloop (bb := bb) (N := N) (o := o) (ρ := ρ) (w := w) (x := ⟨[], W, st, kd, wd, vl, ch, ⟨true, lg, key, ph, seq, j, fd, hd, tm, er, pl, sn, fl, bk, ep, tp, tl⟩, p2, k2, 0⟩) ⟨hb, hC, by have := mT_max (W := W) (tb_of hb hC); dsimp only; omega⟩ rfl
  dsimp only [alS, tqH]
  refine sx hX [] 5 rfl (by first | exact trivial | simp [conjP]) ?_
  simp only [ha']
  refine sxb hX [.r 23] [] 4000 rfl (by (simp [-List.getD_eq_getElem?_getD, -List.length_eq_zero_iff, conjP, addOP])) ?_
  (refine ss_sub hX (T' := [(7, .tt), (8, .ptr 2 0), (9, .ptr 3 0), (17, .ptr 5 0)]) (H' := bslH bb N o T R ⟨[], W, st, kd, wd, vl, ch, ⟨true, lg, key, ph, seq, j, fd, hd, tm, er, pl, sn, fl, bk, ep, tp, tl⟩, p2, k2, 0⟩) [0, 1, 2, 3, 4, 8, 13, 14] rfl rfl rfl (by cases bb <;> rfl) ?tt ?hh ?ot ?ok hl; (case tt => exact clhB); (case hh => exact clhB); (case ot => exact clkB); (case ok => exact clkB))
theorem bsolo {z : Tq} (hb : BI T R 300 z.W z.st) (h0 : okO (TC T R 300) z.c0) (h1 : okO (TC T R 300) z.c1) (h2 : okO (TC T R 300) z.c2) :
    SS hXTq (At ρ w) (Is .tt [scE bb N o, pinE RTV]) ⟨[], [], Tryz.f7, Tryz.f7.ntmps, [scE bb N o, pinE RTV], contF Tryz.f7 21 [], alS q, tqH (scE bb N o) T R z []⟩ := by
  rcases c3_cases q with ha | ha | ha
  · rcases hc : z.c0 with _ | ⟨rm, lg, key, ph, seq, j, fd, hd, tm, er, pl, sn, fl, bk, ep, tp, tl⟩
    · rcases hbk : (ibits .and .i64 q 1 == 1) with _ | _
      · exact ss_sw hXTq (sw_ss (hXTn ⟨T, R, 0, 0, false, false, t00, r00⟩) (cs := []) (bg0f hb ha hc hbk))
      · exact ss_sw hXTq (sw_ss (hXTn ⟨T, R, 0, 0, false, true, t00, r00⟩) (cs := []) (bg0t hb ha hc hbk))
    · rw [hc] at h0
      rcases rm with _ | _
      · exact bo0c hb ha hc h0
      · exact bo0r hb ha hc h0
  · rcases hc : z.c1 with _ | ⟨rm, lg, key, ph, seq, j, fd, hd, tm, er, pl, sn, fl, bk, ep, tp, tl⟩
    · rcases hbk : (ibits .and .i64 q 1 == 1) with _ | _
      · exact ss_sw hXTq (sw_ss (hXTn ⟨T, R, 0, 0, false, false, t00, r00⟩) (cs := []) (bg1f hb ha hc hbk))
      · exact ss_sw hXTq (sw_ss (hXTn ⟨T, R, 0, 0, false, true, t00, r00⟩) (cs := []) (bg1t hb ha hc hbk))
    · rw [hc] at h1
      rcases rm with _ | _
      · exact bo1c hb ha hc h1
      · exact bo1r hb ha hc h1
  · rcases hc : z.c2 with _ | ⟨rm, lg, key, ph, seq, j, fd, hd, tm, er, pl, sn, fl, bk, ep, tp, tl⟩
    · rcases hbk : (ibits .and .i64 q 1 == 1) with _ | _
      · exact ss_sw hXTq (sw_ss (hXTn ⟨T, R, 0, 0, false, false, t00, r00⟩) (cs := []) (bg2f hb ha hc hbk))
      · exact ss_sw hXTq (sw_ss (hXTn ⟨T, R, 0, 0, false, true, t00, r00⟩) (cs := []) (bg2t hb ha hc hbk))
    · rw [hc] at h2
      rcases rm with _ | _
      · exact bo2c hb ha hc h2
      · exact bo2r hb ha hc h2
end
end Go.Proofs.YtkkddjchkkaagaaGreatDoor
