/- TopicsEpochs: a topic that comes has as its epoch how often its place was left. -/
import Derived.Test.YtkkddjchkkaagaaGreatDoorEpochsEnds
namespace Go.Proofs.YtkkddjchkkaagaaGreatDoor
open Go Go.Hx
set_option maxRecDepth 8000
def p00 (T : Nat) (R : Int) : EP := ⟨T, R, 0, false, t00, r00⟩
section
variable {T : Nat} {R : Int} {N cap : Nat} {o : Nat → Int × Int × Bool × Bool} {x : XS} {ρ : Nat → Nat × Nat} {w : World} {I I2 : Act → World → Prop} {key : Int}
set_option maxHeartbeats 8000000 in
theorem opr (h : XInv T R N x) (hin : x.i < N) (hi : x.i < 60) (hk1 : 1 ≤ key) (hk6 : key ≤ 6) {pl : Int} (hfd : (pl = -1 ∧ absK T x.W key) ∨ ∃ p, preK T x.W key p ∧ pl = (p : Int)) (J : ∀ p0, EB p0 T R N cap o x.i ρ w I) :
    SS (hXEq (p00 T R)) (At ρ w) (Is .tt [.obj (.rows N 4 (actR o)), pinE RTV]) ⟨[], [], Tryz.f9, Tryz.f9.ntmps, [.obj (.rows N 4 (actR o)), pinE RTV], contF Tryz.f9 19 [I], [(1, .slice 0 0 N cap), (5, .tt), (6, .ptr 2 0), (7, .ptr 3 0), (9, .slice 5 0 T T), (10, .int .i64 (x.i : Int)), (11, .int .i64 key), (12, .int .i64 pl), (14, .ptr 7 0)], eyH N o T R x.left ⟨0, x.W, x.st, x.kd, x.wd, x.vl, x.ch, newT true false key⟩⟩ := by
  have hX := hXEq (p00 T R)
  have J := J (p00 T R)
  have t4 := h.q.b.t4
  refine sxb hX [.l] [] 4000 rfl trivial ?_
  refine ss_sub hX (T' := eyTr T N cap x.i key pl ⟨0, x.W, x.st, x.kd, x.wd, x.vl, x.ch, newT true false key⟩) (H' := eyH N o T R x.left ⟨0, x.W, x.st, x.kd, x.wd, x.vl, x.ch, newT true false key⟩) [0, 1, 2, 3, 4, 5, 6, 7] rfl rfl rfl rfl ?tt ?hh ?ot ?ok ?_
  case tt => exact clhE
  case hh => exact clhE
  case ot => exact clkE
  case ok => exact clkE
  refine ss_loop hX (eyTr T N cap x.i key pl) (eyH N o T R x.left) (RInv T R (40 * (x.i : Int)) x.W true false key) (fun y => T + 7 - y.j) _ (r_new h.q hk1 hk6) ?_
  intro y hy I2 back
  by_cases hlt : y.j < T + 7
  · have hn : 40 * (x.i : Int) + 100 ≤ 10000 := by omega
    have bkk : ∀ p0, EYJr p0 T R (40 * (x.i : Int)) N cap o x.left x.W x.i key pl false y ρ w I2 I := fun p0 y' hy' hj' cs TT H hsub => ss_sw (hXEq p0) (sw_ss hX (back y' hy' (by show T + 7 - y'.j < T + 7 - y.j; omega) [] TT H hsub))
    have key2 : ∃ p0, EYGr p0 T R N cap o x.left x.i key pl y ρ w I2 I := by
      rcases hs : y.s with ⟨rm, lg, key9, ph, seq, j0, fd, hd, tm, er, pl9, sn, fl, bk, ep, tp, tl⟩
      have hrm := hy.rm
      rw [hs] at hrm
      dsimp only at hrm
      subst hrm
      by_cases h0 : ph = 0
      · subst h0; exact eyrd hy hlt hn hs bkk
      · exact eyrn hy hlt hn hs h0 bkk
    obtain ⟨p0, hp⟩ := key2
    refine sxb hX [.r 20] [] 100 rfl trivial ?_
    exact ss_sw hX (sw_ss (hXEq p0) (cs := []) hp)
  · have hj : y.j = T + 7 := by have := hy.hj; omega
    have h0 := r_end hy hj
    obtain ⟨ee, d⟩ := hy.done h0
    have hb := hy.b
    have hrm := hy.rm
    have hlg := hy.lg
    have hky := hy.key
    obtain ⟨j, W', st', kd', wd', vl', ch', ⟨rm, lg, key9, ph, seq, j0, fd, hd, tm, er, pl9, sn, fl, bk, ep, tp, tl⟩⟩ := y
    dsimp only at hj h0 ee d hb hrm hlg hky
    subst hj; subst h0; subst hrm
    obtain rfl := hky.symm
    have ewt : IntKind.i64.wrap ((T : Int) + 7) = (T : Int) + 7 := wi64 (by omega) (by omega)
    have hjj : ¬ ((T + 7 : Nat) : Int) < (T : Int) + 7 := by omega
    cases ee with
    | none_ h1 h2 h3 h4 =>
      obtain rfl : er = 12 := h1
      have hpl : pl = -1 := by
        rcases hfd with ⟨e, _⟩ | ⟨p, hp, _⟩
        · exact e
        · exact (pre_abs hp h4).elim
      subst hpl
      have hz := en_none (key := key) h hin hi (y := ⟨T + 7, W', st', kd', wd', vl', ch', ⟨true, lg, key, 0, seq, j0, fd, hd, tm, 12, pl9, sn, fl, bk, ep, tp, tl⟩⟩) rfl hb d h3 J
      dsimp only [eyTr, eyH] at hz ⊢
      refine sxb hX [.r 23] [] 4000 rfl (by (simp [-List.getD_eq_getElem?_getD, -List.length_eq_zero_iff, conjP])) ?_
      refine sxb hX [.r 23] [.F] 4000 rfl (by (simp [-List.getD_eq_getElem?_getD, -List.length_eq_zero_iff, conjP, addOP, ewt])) ?_
      (refine ss_sub hX (T' := [(1, .slice 0 0 N cap), (5, .tt), (6, .ptr 2 0), (7, .ptr 3 0), (9, .slice 5 0 T T), (10, .int .i64 (x.i : Int)), (11, .int .i64 key), (12, .int .i64 (-1)), (14, .ptr 7 0)]) (H' := eyH N o T R x.left ⟨T + 7, W', st', kd', wd', vl', ch', ⟨true, lg, key, 0, seq, j0, fd, hd, tm, 12, pl9, sn, fl, bk, ep, tp, tl⟩⟩) [0, 1, 2, 3, 4, 5, 6, 7] rfl rfl rfl rfl ?tt ?hh ?ot ?ok hz; (case tt => exact clhE); (case hh => exact clhE); (case ot => exact clkE); (case ok => exact clkE))
    | gone p h1 h2 h3 h4 =>
      obtain rfl : er = 0 := h1
      have hpl : pl = (p : Int) := by
        rcases hfd with ⟨_, e⟩ | ⟨p', hp', e⟩
        · exact (pre_abs h4 e).elim
        · rw [e, pre_one h.q.d.de hp' h4]
      subst hpl
      have hz := en_gone (key := key) h hin hi (y := ⟨T + 7, W', st', kd', wd', vl', ch', ⟨true, lg, key, 0, seq, j0, fd, hd, tm, 0, pl9, sn, fl, bk, ep, tp, tl⟩⟩) rfl hb d h4.1 h3 J
      dsimp only [eyTr, eyH] at hz ⊢
      refine sxb hX [.r 23] [] 4000 rfl (by (simp [-List.getD_eq_getElem?_getD, -List.length_eq_zero_iff, conjP])) ?_
      refine sxb hX [.r 23] [.F] 4000 rfl (by (simp [-List.getD_eq_getElem?_getD, -List.length_eq_zero_iff, conjP, addOP, ewt])) ?_
      (refine ss_sub hX (T' := [(1, .slice 0 0 N cap), (5, .tt), (6, .ptr 2 0), (7, .ptr 3 0), (9, .slice 5 0 T T), (10, .int .i64 (x.i : Int)), (11, .int .i64 key), (12, .int .i64 (p : Int)), (14, .ptr 7 0)]) (H' := eyH N o T R x.left ⟨T + 7, W', st', kd', wd', vl', ch', ⟨true, lg, key, 0, seq, j0, fd, hd, tm, 0, pl9, sn, fl, bk, ep, tp, tl⟩⟩) [0, 1, 2, 3, 4, 5, 6, 7] rfl rfl rfl rfl ?tt ?hh ?ot ?ok hz; (case tt => exact clhE); (case hh => exact clhE); (case ot => exact clkE); (case ok => exact clkE))
    | there p h1 h2 h3 h4 => cases h2
    | full h1 h2 h3 h4 => cases h2
    | made p h1 h2 hp h3 h4 h5 h6 h7 => cases h2
set_option maxHeartbeats 8000000 in
theorem opc (h : XInv T R N x) (hin : x.i < N) (hi : x.i < 60) (hk1 : 1 ≤ key) (hk6 : key ≤ 6) {pl : Int} (hfd : (pl = -1 ∧ absK T x.W key) ∨ ∃ p, preK T x.W key p ∧ pl = (p : Int)) (J : ∀ p0, EB p0 T R N cap o x.i ρ w I) :
    SS (hXEq (p00 T R)) (At ρ w) (Is .tt [.obj (.rows N 4 (actR o)), pinE RTV]) ⟨[], [], Tryz.f9, Tryz.f9.ntmps, [.obj (.rows N 4 (actR o)), pinE RTV], contF Tryz.f9 29 [I], [(1, .slice 0 0 N cap), (5, .tt), (6, .ptr 2 0), (7, .ptr 3 0), (9, .slice 5 0 T T), (10, .int .i64 (x.i : Int)), (11, .int .i64 key), (12, .int .i64 pl), (18, .ptr 7 0)], eyH N o T R x.left ⟨0, x.W, x.st, x.kd, x.wd, x.vl, x.ch, newT false (o x.i).2.2.2 key⟩⟩ := by
  have hX := hXEq (p00 T R)
  have J := J (p00 T R)
  have t4 := h.q.b.t4
  refine sxb hX [.l] [] 4000 rfl trivial ?_
  refine ss_sub hX (T' := eyTc T N cap x.i key pl ⟨0, x.W, x.st, x.kd, x.wd, x.vl, x.ch, newT false (o x.i).2.2.2 key⟩) (H' := eyH N o T R x.left ⟨0, x.W, x.st, x.kd, x.wd, x.vl, x.ch, newT false (o x.i).2.2.2 key⟩) [0, 1, 2, 3, 4, 5, 6, 7] rfl rfl rfl rfl ?tt ?hh ?ot ?ok ?_
  case tt => exact clhE
  case hh => exact clhE
  case ot => exact clkE
  case ok => exact clkE
  refine ss_loop hX (eyTc T N cap x.i key pl) (eyH N o T R x.left) (RInv T R (40 * (x.i : Int)) x.W false (o x.i).2.2.2 key) (fun y => T + 7 - y.j) _ (r_new h.q hk1 hk6) ?_
  intro y hy I2 back
  by_cases hlt : y.j < T + 7
  · have hn : 40 * (x.i : Int) + 100 ≤ 10000 := by omega
    have bkk : ∀ p0, EYJc p0 T R (40 * (x.i : Int)) N cap o x.left x.W x.i key pl (o x.i).2.2.2 y ρ w I2 I := fun p0 y' hy' hj' cs TT H hsub => ss_sw (hXEq p0) (sw_ss hX (back y' hy' (by show T + 7 - y'.j < T + 7 - y.j; omega) [] TT H hsub))
    have key2 : ∃ p0, EYGc p0 T R N cap o x.left x.i key pl y ρ w I2 I := by
      rcases hs : y.s with ⟨rm, lg, key9, ph, seq, j0, fd, hd, tm, er, pl9, sn, fl, bk, ep, tp, tl⟩
      have hrm := hy.rm
      rw [hs] at hrm
      dsimp only at hrm
      subst hrm
      by_cases h0 : ph = 0
      · subst h0; exact eycd hy hlt hn hs bkk
      · exact eycn hy hlt hn hs h0 bkk
    obtain ⟨p0, hp⟩ := key2
    refine sxb hX [.r 30] [] 100 rfl trivial ?_
    exact ss_sw hX (sw_ss (hXEq p0) (cs := []) hp)
  · have hj : y.j = T + 7 := by have := hy.hj; omega
    have h0 := r_end hy hj
    obtain ⟨ee, d⟩ := hy.done h0
    have hb := hy.b
    have hrm := hy.rm
    have hlg := hy.lg
    have hky := hy.key
    obtain ⟨j, W', st', kd', wd', vl', ch', ⟨rm, lg, key9, ph, seq, j0, fd, hd, tm, er, pl9, sn, fl, bk, ep, tp, tl⟩⟩ := y
    dsimp only at hj h0 ee d hb hrm hlg hky
    subst hj; subst h0; subst hrm
    obtain rfl := hky.symm
    have ewt : IntKind.i64.wrap ((T : Int) + 7) = (T : Int) + 7 := wi64 (by omega) (by omega)
    have hjj : ¬ ((T + 7 : Nat) : Int) < (T : Int) + 7 := by omega
    cases ee with
    | there p h1 h2 h3 h4 =>
      obtain rfl : er = 14 := h1
      have hpl : pl = (p : Int) := by
        rcases hfd with ⟨_, e⟩ | ⟨p', hp', e⟩
        · exact (pre_abs h4 e).elim
        · rw [e, pre_one h.q.d.de hp' h4]
      subst hpl
      have hz := en_there (key := key) h hin hi (y := ⟨T + 7, W', st', kd', wd', vl', ch', ⟨false, lg, key, 0, seq, j0, fd, hd, tm, 14, pl9, sn, fl, bk, ep, tp, tl⟩⟩) rfl hb d h3 h4.1 J
      dsimp only [eyTc, eyH] at hz ⊢
      refine sxb hX [.r 33] [] 4000 rfl (by (simp [-List.getD_eq_getElem?_getD, -List.length_eq_zero_iff, conjP])) ?_
      refine sxb hX [.r 33] [.F] 4000 rfl (by (simp [-List.getD_eq_getElem?_getD, -List.length_eq_zero_iff, conjP, addOP, ewt])) ?_
      (refine ss_sub hX (T' := [(1, .slice 0 0 N cap), (5, .tt), (6, .ptr 2 0), (7, .ptr 3 0), (9, .slice 5 0 T T), (10, .int .i64 (x.i : Int)), (11, .int .i64 key), (12, .int .i64 (p : Int)), (18, .ptr 7 0)]) (H' := eyH N o T R x.left ⟨T + 7, W', st', kd', wd', vl', ch', ⟨false, lg, key, 0, seq, j0, fd, hd, tm, 14, pl9, sn, fl, bk, ep, tp, tl⟩⟩) [0, 1, 2, 3, 4, 5, 6, 7] rfl rfl rfl rfl ?tt ?hh ?ot ?ok hz; (case tt => exact clhE); (case hh => exact clhE); (case ot => exact clkE); (case ok => exact clkE))
    | full h1 h2 h3 h4 =>
      obtain rfl : er = 15 := h1
      have hpl : pl = -1 := by
        rcases hfd with ⟨e, _⟩ | ⟨p, hp, _⟩
        · exact e
        · exact (pre_abs hp h4).elim
      subst hpl
      have hz := en_full (key := key) h hin hi (y := ⟨T + 7, W', st', kd', wd', vl', ch', ⟨false, lg, key, 0, seq, j0, fd, hd, tm, 15, pl9, sn, fl, bk, ep, tp, tl⟩⟩) rfl hb d h3 J
      dsimp only [eyTc, eyH] at hz ⊢
      refine sxb hX [.r 33] [] 4000 rfl (by (simp [-List.getD_eq_getElem?_getD, -List.length_eq_zero_iff, conjP])) ?_
      refine sxb hX [.r 33] [.F] 4000 rfl (by (simp [-List.getD_eq_getElem?_getD, -List.length_eq_zero_iff, conjP, addOP, ewt])) ?_
      (refine ss_sub hX (T' := [(1, .slice 0 0 N cap), (5, .tt), (6, .ptr 2 0), (7, .ptr 3 0), (9, .slice 5 0 T T), (10, .int .i64 (x.i : Int)), (11, .int .i64 key), (12, .int .i64 (-1)), (18, .ptr 7 0)]) (H' := eyH N o T R x.left ⟨T + 7, W', st', kd', wd', vl', ch', ⟨false, lg, key, 0, seq, j0, fd, hd, tm, 15, pl9, sn, fl, bk, ep, tp, tl⟩⟩) [0, 1, 2, 3, 4, 5, 6, 7] rfl rfl rfl rfl ?tt ?hh ?ot ?ok hz; (case tt => exact clhE); (case hh => exact clhE); (case ot => exact clkE); (case ok => exact clkE))
    | made p h1 h2 hp h3 h4 h5 h6 h7 =>
      obtain rfl : er = 0 := h1
      have hpl : pl = -1 := by
        rcases hfd with ⟨e, _⟩ | ⟨p', hp', _⟩
        · exact e
        · exact (pre_abs hp' h4).elim
      subst hpl
      obtain rfl : tp = (p : Int) := h5
      obtain rfl : lg = (o x.i).2.2.2 := hlg
      obtain rfl : tl = (o x.i).2.2.2 := h7
      obtain rfl : ep = x.left.getD p 0 := h6.trans (h.e p hp).1
      have hz := en_made (key := key) h hin hi (y := ⟨T + 7, W', st', kd', wd', vl', ch', ⟨false, (o x.i).2.2.2, key, 0, seq, j0, fd, hd, tm, 0, pl9, sn, fl, bk, (x.left.getD p 0), (p : Int), (o x.i).2.2.2⟩⟩) rfl hb d hp ⟨hk1, hk6⟩ h3 J
      dsimp only [eyTc, eyH] at hz ⊢
      refine sxb hX [.r 33] [] 4000 rfl (by (simp [-List.getD_eq_getElem?_getD, -List.length_eq_zero_iff, conjP])) ?_
      refine sxb hX [.r 33] [.F] 4000 rfl (by (simp [-List.getD_eq_getElem?_getD, -List.length_eq_zero_iff, conjP, addOP, ewt])) ?_
      (refine ss_sub hX (T' := [(1, .slice 0 0 N cap), (5, .tt), (6, .ptr 2 0), (7, .ptr 3 0), (9, .slice 5 0 T T), (10, .int .i64 (x.i : Int)), (11, .int .i64 key), (12, .int .i64 (-1)), (18, .ptr 7 0)]) (H' := eyH N o T R x.left ⟨T + 7, W', st', kd', wd', vl', ch', ⟨false, (o x.i).2.2.2, key, 0, seq, j0, fd, hd, tm, 0, pl9, sn, fl, bk, (x.left.getD p 0), (p : Int), (o x.i).2.2.2⟩⟩) [0, 1, 2, 3, 4, 5, 6, 7] rfl rfl rfl rfl ?tt ?hh ?ot ?ok hz; (case tt => exact clhE); (case hh => exact clhE); (case ot => exact clkE); (case ok => exact clkE))
    | none_ h1 h2 h3 h4 => cases h2
    | gone p h1 h2 h3 h4 => cases h2
end
end Go.Proofs.YtkkddjchkkaagaaGreatDoor
