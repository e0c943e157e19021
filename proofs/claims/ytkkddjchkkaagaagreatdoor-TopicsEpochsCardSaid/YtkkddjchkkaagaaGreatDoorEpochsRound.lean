/- TopicsEpochs: a topic that comes has as its epoch how often its place was left: no two topics that ever were have one place, and one epoch. -/
import Derived.Test.YtkkddjchkkaagaaGreatDoorEpochsOps
namespace Go.Proofs.YtkkddjchkkaagaaGreatDoor
open Go Go.Hx
set_option maxRecDepth 8000
section
variable {T : Nat} {R : Int} {N cap : Nat} {o : Nat → Int × Int × Bool × Bool} {x : XS} {ρ : Nat → Nat × Nat} {w : World} {I I2 : Act → World → Prop} {key : Int}
set_option maxHeartbeats 8000000 in
theorem eplc (h : XInv T R N x) (hin : x.i < N) (hi : x.i < 60) (J : ∀ p0, EB p0 T R N cap o x.i ρ w I) :
    SS (hXEq (p00 T R)) (At ρ w) (Is .tt [.obj (.rows N 4 (actR o)), pinE RTV]) ⟨[], [], Tryz.f9, Tryz.f9.ntmps, [.obj (.rows N 4 (actR o)), pinE RTV], contF Tryz.f9 12 [I], [(1, .slice 0 0 N cap), (5, .tt), (6, .ptr 2 0), (7, .ptr 3 0), (9, .slice 5 0 T T), (10, .int .i64 (x.i : Int)), (11, .int .i64 (cRem 1 6 (o x.i).2.1)), (12, .int .i64 (-1))], exH N o T R x []⟩ := by
  have hX := hXEq (p00 T R)
  have b := h.q.b
  have t1 := b.t1
  have t4 := b.t4
  have r1 := b.r1
  have r8 := b.r8
  have hr := right_TR t1 t4 r1 r8
  have hin1 : (x.i : Int) < (N : Int) := by omega
  obtain ⟨kq1, kq6⟩ := cRemB 1 6 (o x.i).2.1 (by decide) (by decide) (by decide) (by decide)
  have kq6' : (cRem 1 6 (o x.i).2.1) ≤ 6 := by omega
  have hfd := fd_cases h.q kq1
  refine sxb hX [.l] [] 4000 rfl trivial ?_
  refine ss_sub hX (T' := epT T N cap x (cRem 1 6 (o x.i).2.1) (fdP x.W (cRem 1 6 (o x.i).2.1) 0) 0) (H' := exH N o T R x []) [0, 1, 2, 3, 4, 5] rfl rfl rfl rfl ?tt ?hh ?ot ?ok ?_
  case tt => exact clhE
  case hh => exact clhE
  case ot => exact clkE
  case ok => exact clkE
  refine ss_loop hX (fun p => epT T N cap x (cRem 1 6 (o x.i).2.1) (fdP x.W (cRem 1 6 (o x.i).2.1) p) p) (fun _ => exH N o T R x []) (fun p => p ≤ T) (fun p => T - p) 0 (Nat.zero_le _) ?_
  intro p hp I2 back
  have hp : p ≤ T := hp
  by_cases hlt : p < T
  · have bkk : ∀ pv, fdP x.W (cRem 1 6 (o x.i).2.1) (p + 1) = pv → EPJ (p00 T R) T R N cap o x ρ w I2 I (cRem 1 6 (o x.i).2.1) pv p := fun pv e cs TT H hsub => ss_sw hX (sw_ss hX (back (p + 1) (by show p + 1 ≤ T; omega) (by show T - (p + 1) < T - p; omega) [] TT H (by rw [e]; exact hsub)))
    refine sxb hX [.r 13] [] 100 rfl trivial ?_
    by_cases hk : kyW (x.W.getD (eP p) 0) = (cRem 1 6 (o x.i).2.1)
    · exact ep1 h hlt hk (bkk _ (by simp only [fdP]; rw [if_pos hk]))
    · exact ep0 h hlt hk (bkk _ (by simp only [fdP]; rw [if_neg hk]))
  · have ep : p = T := by omega
    subst ep
    have hnl : ¬ (p : Int) < (p : Int) := by omega
    rcases hb : (o x.i).2.2.1 with _ | _
    · have hz := opc (cap := cap) (o := o) (ρ := ρ) (w := w) (I := I) h hin hi kq1 (by omega : (cRem 1 6 (o x.i).2.1) ≤ 6) hfd J
      dsimp only [epT, exH, eyH, hdE, ruE] at hz ⊢
      refine sxb hX [.r 29] [] 4000 rfl (by (simp [-List.getD_eq_getElem?_getD, -List.length_eq_zero_iff, conjP])) ?_
      refine sxb hX [.r 29] [.F] 4000 rfl (by (simp [-List.getD_eq_getElem?_getD, -List.length_eq_zero_iff, conjP, hin, hin1, hnl, Int.toNat_natCast])) ?_
      refine sxb hX [.r 29] [.F] 4000 rfl (by (simp [-List.getD_eq_getElem?_getD, -List.length_eq_zero_iff, conjP, p00, hin, hin1, hb, t1, t4, r1, r8, kq1, kq6', Int.toNat_natCast])) ?_
      (refine ss_sub hX (T' := [(1, .slice 0 0 N cap), (5, .tt), (6, .ptr 2 0), (7, .ptr 3 0), (9, .slice 5 0 p p), (10, .int .i64 (x.i : Int)), (11, .int .i64 (cRem 1 6 (o x.i).2.1)), (12, .int .i64 (fdP x.W (cRem 1 6 (o x.i).2.1) p)), (18, .ptr 7 0)]) (H' := eyH N o p R x.left ⟨0, x.W, x.st, x.kd, x.wd, x.vl, x.ch, newT false (o x.i).2.2.2 (cRem 1 6 (o x.i).2.1)⟩) [0, 1, 2, 3, 4, 5, 6, 7] rfl rfl rfl rfl ?tt ?hh ?ot ?ok hz; (case tt => exact clhE); (case hh => exact clhE); (case ot => exact clkE); (case ok => exact clkE))
    · have hz := opr (cap := cap) (o := o) (ρ := ρ) (w := w) (I := I) h hin hi kq1 (by omega : (cRem 1 6 (o x.i).2.1) ≤ 6) hfd J
      dsimp only [epT, exH, eyH, hdE, ruE] at hz ⊢
      refine sxb hX [.r 19] [] 4000 rfl (by (simp [-List.getD_eq_getElem?_getD, -List.length_eq_zero_iff, conjP])) ?_
      refine sxb hX [.r 19] [.F] 4000 rfl (by (simp [-List.getD_eq_getElem?_getD, -List.length_eq_zero_iff, conjP, hin, hin1, hnl, Int.toNat_natCast])) ?_
      refine sxb hX [.r 19] [.T] 4000 rfl (by (simp [-List.getD_eq_getElem?_getD, -List.length_eq_zero_iff, conjP, p00, hb, t1, t4, r1, r8, kq1, kq6', Int.toNat_natCast])) ?_
      (refine ss_sub hX (T' := [(1, .slice 0 0 N cap), (5, .tt), (6, .ptr 2 0), (7, .ptr 3 0), (9, .slice 5 0 p p), (10, .int .i64 (x.i : Int)), (11, .int .i64 (cRem 1 6 (o x.i).2.1)), (12, .int .i64 (fdP x.W (cRem 1 6 (o x.i).2.1) p)), (14, .ptr 7 0)]) (H' := eyH N o p R x.left ⟨0, x.W, x.st, x.kd, x.wd, x.vl, x.ch, newT true false (cRem 1 6 (o x.i).2.1)⟩) [0, 1, 2, 3, 4, 5, 6, 7] rfl rfl rfl rfl ?tt ?hh ?ot ?ok hz; (case tt => exact clhE); (case hh => exact clhE); (case ot => exact clkE); (case ok => exact clkE))
set_option maxHeartbeats 8000000 in
theorem eround (h : XInv T R N x) (hin : x.i < N) (hi : x.i < 60) (J : ∀ p0, EB p0 T R N cap o x.i ρ w I) :
    SS (hXEq (p00 T R)) (At ρ w) (Is .tt [.obj (.rows N 4 (actR o)), pinE RTV]) ⟨[], [], Tryz.f9, Tryz.f9.ntmps, [.obj (.rows N 4 (actR o)), pinE RTV], contF Tryz.f9 8 [I], exT T N cap x, exH N o T R x []⟩ := by
  have hX := hXEq (p00 T R)
  have b := h.q.b
  have t1 := b.t1
  have t4 := b.t4
  have r1 := b.r1
  have r8 := b.r8
  have hr := right_TR t1 t4 r1 r8
  have hin1 : (x.i : Int) < (N : Int) := by omega
  have hi1 : (x.i : Int) < 60 := by omega
  obtain ⟨kq1, kq6⟩ := cRemB 1 6 (o x.i).2.1 (by decide) (by decide) (by decide) (by decide)
  have kq6' : (cRem 1 6 (o x.i).2.1) ≤ 6 := by omega
  have hfd := fd_cases h.q kq1
  dsimp only [exT, exH]
  refine sxb hX [.r 12] [] 4000 rfl (by (simp [-List.getD_eq_getElem?_getD, -List.length_eq_zero_iff, conjP])) ?_
  refine sxb hX [.r 12] [.T] 4000 rfl (by (simp [-List.getD_eq_getElem?_getD, -List.length_eq_zero_iff, conjP, addOP, hin1])) ?_
  refine sxb hX [.r 12] [.T] 4000 rfl (by (simp [-List.getD_eq_getElem?_getD, -List.length_eq_zero_iff, conjP, hin, hin1, hi1, Int.toNat_natCast])) ?_
  (refine ss_sub hX (T' := [(1, .slice 0 0 N cap), (5, .tt), (6, .ptr 2 0), (7, .ptr 3 0), (9, .slice 5 0 T T), (10, .int .i64 (x.i : Int)), (11, .int .i64 (cRem 1 6 (o x.i).2.1)), (12, .int .i64 (-1))]) (H' := exH N o T R x []) [0, 1, 2, 3, 4, 5] rfl rfl rfl rfl ?tt ?hh ?ot ?ok (eplc h hin hi J); (case tt => (try simp only [Int.toNat_natCast]); exact clhE); (case hh => exact clhE); (case ot => exact clkE); (case ok => exact clkE))
end
end Go.Proofs.YtkkddjchkkaagaaGreatDoor
