/- SmallAlone: client 0 goes on alone: the loop, the end. -/
import Derived.Test.YtmghcelohnlceaaGreatDoorAloneWrite
import Derived.Test.YtmghcelohnlceaaGreatDoorAloneOn
import Derived.Test.YtmghcelohnlceaaGreatDoorAloneRead
namespace Go.Proofs.YtmghcelohnlceaaGreatDoor
open Go Go.Hx
set_option maxRecDepth 8000
section
variable {bb : Bool} {R : Int} {N i0 : Nat} {o : Nat → Int × Int} {co : Option WS} {f : Bool} {Wb : List Int} {hd0 : Bool} {x : SS0} {ρ : Nat → Nat × Nat} {w : World} {I : Act → World → Prop}
theorem tr0 (h : SInv0 R i0 co x) (hi0 : i0 ≤ 101) (hj : (x.j : Int) < 8 * R)  (J : ∀ p, TJ0 p bb R N i0 o co f Wb hd0 x ρ w I) : ∃ p, TG0 p bb R N o f Wb hd0 x ρ w I := by
  have pc : x.ph = 0 ∨ x.ph = 1 ∨ x.ph = 2 := by have := h.ph2; omega
  rcases pc with hp | hp | hp
  · obtain ⟨s, hs, _⟩ := h.on hp
    have ok : WOk R s := by have q := h.b.o0; rw [hs] at q; exact q
    have hr : ∀ ep nx sn fl tm ii hd l, x.z.c0 = some ⟨ep, nx, sn, fl, tm, ii, hd, l⟩ → wStep R ⟨ep, nx, sn, fl, tm, ii, hd, l⟩ x.z.W x.z.st = wStep R s x.z.W x.z.st := fun _ _ _ _ _ _ _ _ e => by rw [hs] at e; cases e; rfl
    have k2 := (wAft (st := x.z.st) ok h.b.hw).k2
    have kc : (wStep R s x.z.W x.z.st).k = 0 ∨ (wStep R s x.z.W x.z.st).k = 1 ∨ (wStep R s x.z.W x.z.st).k = 2 := by omega
    rcases kc with e | e | e
    · exact ts00 h hi0 hj hp hr e J
    · exact ts01 h hi0 hj hp hr e J
    · exact ts02 h hi0 hj hp hr e J
  · exact ts0e h hi0 hj hp J
  · exact ts0f h hi0 hj hp J
end
section
variable {bb : Bool} {R : Int} {N i0 : Nat} {o : Nat → Int × Int} {z0 : Wd} {ρ : Nat → Nat × Nat} {w : World}
set_option maxHeartbeats 8000000 in
theorem sz0 (hb : BInv R i0 z0) (hi0 : i0 ≤ 101) (hm : MI z0.W z0.c0 z0.c1) (hne : z0.c0 ≠ none) : SJ0 bb R N o ρ w (hdO z0.c1) z0 := by
  intro p
  have hX := hXTq p
  have r1 := hb.r1
  have r2 := hb.r2
  have hw8 : IntKind.i64.wrap 8 = 8 := by decide
  have hR : IntKind.i64.wrap (8 * R) = 8 * R := wi64 (by omega) (by omega)
  obtain ⟨s, hs⟩ : ∃ s, z0.c0 = some s := by
    rcases q : z0.c0 with _ | s
    · exact absurd q hne
    · exact ⟨s, rfl⟩
  have ok : WOk R s := by have q := hb.o0; rw [hs] at q; exact q
  dsimp only [soT0, alH2, wdH]
  refine sxb hX [.l] [] 4000 rfl (by first | exact trivial | simp [conjP]) ?_
  refine ss_sub hX (T' := ssT0 (hdO z0.c1) ⟨0, z0, 0, cl0, []⟩) (H' := ssH0 bb N o R z0.f z0.W ⟨0, z0, 0, cl0, []⟩) [0, 1, 2, 3, 4, 5, 6, 7, 8, 9, 10, 11, 12, 13, 14, 15, 16, 17, 18, 19] rfl rfl rfl (by cases bb <;> rfl) ?tt ?hh (by (repeat' (first | exact rfl | exact trivial | exact sim_refl _ | refine And.intro ?_ ?_))) ?ok ?_
  case tt => (repeat' (first | exact rfl | exact trivial | exact sim_refl _ | refine And.intro ?_ ?_)); done
  case hh => (((repeat' (first | exact rfl | exact trivial | exact sim_refl _ | exact simO_refl _ | exact subE_same rfl ren_scE | exact subE_same rfl ren_wlE | exact subE_same rfl ren_rlE | exact subE_same rfl ren_bwE | exact subE_wrE rfl rfl | exact subE_rdE rfl rfl | exact sim_wrP rfl | exact sim_rdP rfl | exact sim_bsV rfl | assumption | refine And.intro ?_ ?_)); done))
  case ok => (((repeat' (first | exact rfl | exact trivial | exact okE_scE | exact okE_wlE | exact okE_rlE | exact okE_bwE | exact okE_wrE rfl | exact okE_rdE rfl | exact okP_wrP (i := 13) rfl | exact okP_wrP (i := 15) rfl | exact okP_rdP (i := 17) rfl | exact okP_rdP (i := 19) rfl | exact okP_bsV rfl | refine And.intro ?_ ?_)); done))
  refine ss_loop hX (ssT0 (hdO z0.c1)) (ssH0 bb N o R z0.f z0.W) (SInv0 R i0 z0.c1) (fun x => (8 * R).toNat - x.j) ⟨0, z0, 0, cl0, []⟩ ⟨by (try dsimp only); omega, hb, hm, rfl, by (try dsimp only); omega, fun _ => ⟨s, hs, by have := mu_max (W := z0.W) ok; (try dsimp only); omega⟩, fun q => by simp at q, fun q => by simp at q⟩ ?_
  intro x hx I back
  by_cases hj : (x.j : Int) < 8 * R
  · obtain ⟨p', hp⟩ := tr0 (bb := bb) (N := N) (o := o) (f := z0.f) (Wb := z0.W) (hd0 := hdO z0.c1) (ρ := ρ) (w := w) (I := I) hx hi0 hj (fun p x' hx' hj' cs T H hsub => ss_sw (hXTq p) (sw_ss hX (back x' hx' (by show (8 * R).toNat - x'.j < (8 * R).toNat - x.j; omega) [] T H hsub)))
    refine sxb hX [.r 21] [] 100 rfl trivial ?_
    exact ss_sw hX (sw_ss (hXTq p') (cs := []) hp)
  · obtain ⟨j, z, ph, ob, lw⟩ := x
    dsimp only at hj
    have pc : ph = 0 ∨ ph = 1 ∨ ph = 2 := by have := hx.ph2; dsimp only at this; omega
    rcases pc with rfl | rfl | rfl
    · exfalso
      obtain ⟨s', hs', hmu⟩ := hx.on rfl
      have ok' : WOk R s' := by have q := hx.b.o0; rw [hs'] at q; exact q
      have := mu_pos (W := z.W) ok'
      dsimp only at hmu
      omega
    · obtain ⟨ep, sn, fl, cm, tm, ii, hd, c, e1, e2⟩ := hx.er rfl
      dsimp only at e1
      subst e1
      dsimp only [ssT0, ssH0, s2H0]
      rcases ho : hdO z0.c1 with _ | _
      · refine sx hX [] 4000 rfl (by (simp [-List.getD_eq_getElem?_getD, -List.length_eq_zero_iff, conjP])) ?_
        refine sx hX [.F] 4000 rfl (by (simp [-List.getD_eq_getElem?_getD, -List.length_eq_zero_iff, conjP, addOP, hw8, hR, hj])) ?_
        refine sx hX [.F] 4000 rfl (by (simp [-List.getD_eq_getElem?_getD, -List.length_eq_zero_iff, conjP])) ?_
        refine sx hX [.T] 4000 rfl (by (simp [-List.getD_eq_getElem?_getD, -List.length_eq_zero_iff, conjP, addOP])) ?_
        refine sx hX [.T] 4000 rfl (by (simp [-List.getD_eq_getElem?_getD, -List.length_eq_zero_iff, conjP, addOP])) ?_
        (exact ss_end hX [0, 1] rfl rfl trivial rfl rfl rfl (by cases bb <;> rfl) (by (repeat' (first | exact rfl | exact trivial | exact sim_refl _ | refine And.intro ?_ ?_))) (by (((repeat' (first | exact rfl | exact trivial | exact sim_refl _ | exact simO_refl _ | exact subE_same rfl ren_scE | exact subE_same rfl ren_wlE | exact subE_same rfl ren_rlE | exact subE_same rfl ren_bwE | exact subE_wrE rfl rfl | exact subE_rdE rfl rfl | exact sim_wrP rfl | exact sim_rdP rfl | exact sim_bsV rfl | assumption | refine And.intro ?_ ?_)); done))) (by (repeat' (first | exact rfl | exact trivial | exact sim_refl _ | refine And.intro ?_ ?_))) (by (((repeat' (first | exact rfl | exact trivial | exact okE_scE | exact okE_wlE | exact okE_rlE | exact okE_bwE | exact okE_wrE rfl | exact okE_rdE rfl | exact okP_wrP (i := 13) rfl | exact okP_wrP (i := 15) rfl | exact okP_rdP (i := 17) rfl | exact okP_rdP (i := 19) rfl | exact okP_bsV rfl | refine And.intro ?_ ?_)); done))))
      · rcases e2 ho with rfl | rfl
        · refine sx hX [] 4000 rfl (by (simp [-List.getD_eq_getElem?_getD, -List.length_eq_zero_iff, conjP])) ?_
          refine sx hX [.F] 4000 rfl (by (simp [-List.getD_eq_getElem?_getD, -List.length_eq_zero_iff, conjP, addOP, hw8, hR, hj])) ?_
          refine sx hX [.F] 4000 rfl (by (simp [-List.getD_eq_getElem?_getD, -List.length_eq_zero_iff, conjP])) ?_
          refine sx hX [.T] 4000 rfl (by (simp [-List.getD_eq_getElem?_getD, -List.length_eq_zero_iff, conjP, addOP])) ?_
          refine sx hX [.F] 4000 rfl (by (simp [-List.getD_eq_getElem?_getD, -List.length_eq_zero_iff, conjP, addOP])) ?_
          refine sx hX [.F] 4000 rfl (by (simp [-List.getD_eq_getElem?_getD, -List.length_eq_zero_iff, conjP, addOP])) ?_
          (exact ss_end hX [0, 1] rfl rfl trivial rfl rfl rfl (by cases bb <;> rfl) (by (repeat' (first | exact rfl | exact trivial | exact sim_refl _ | refine And.intro ?_ ?_))) (by (((repeat' (first | exact rfl | exact trivial | exact sim_refl _ | exact simO_refl _ | exact subE_same rfl ren_scE | exact subE_same rfl ren_wlE | exact subE_same rfl ren_rlE | exact subE_same rfl ren_bwE | exact subE_wrE rfl rfl | exact subE_rdE rfl rfl | exact sim_wrP rfl | exact sim_rdP rfl | exact sim_bsV rfl | assumption | refine And.intro ?_ ?_)); done))) (by (repeat' (first | exact rfl | exact trivial | exact sim_refl _ | refine And.intro ?_ ?_))) (by (((repeat' (first | exact rfl | exact trivial | exact okE_scE | exact okE_wlE | exact okE_rlE | exact okE_bwE | exact okE_wrE rfl | exact okE_rdE rfl | exact okP_wrP (i := 13) rfl | exact okP_wrP (i := 15) rfl | exact okP_rdP (i := 17) rfl | exact okP_rdP (i := 19) rfl | exact okP_bsV rfl | refine And.intro ?_ ?_)); done))))
        · refine sx hX [] 4000 rfl (by (simp [-List.getD_eq_getElem?_getD, -List.length_eq_zero_iff, conjP])) ?_
          refine sx hX [.F] 4000 rfl (by (simp [-List.getD_eq_getElem?_getD, -List.length_eq_zero_iff, conjP, addOP, hw8, hR, hj])) ?_
          refine sx hX [.F] 4000 rfl (by (simp [-List.getD_eq_getElem?_getD, -List.length_eq_zero_iff, conjP])) ?_
          refine sx hX [.T] 4000 rfl (by (simp [-List.getD_eq_getElem?_getD, -List.length_eq_zero_iff, conjP, addOP])) ?_
          refine sx hX [.F] 4000 rfl (by (simp [-List.getD_eq_getElem?_getD, -List.length_eq_zero_iff, conjP, addOP])) ?_
          refine sx hX [.T] 4000 rfl (by (simp [-List.getD_eq_getElem?_getD, -List.length_eq_zero_iff, conjP, addOP])) ?_
          (exact ss_end hX [0, 1] rfl rfl trivial rfl rfl rfl (by cases bb <;> rfl) (by (repeat' (first | exact rfl | exact trivial | exact sim_refl _ | refine And.intro ?_ ?_))) (by (((repeat' (first | exact rfl | exact trivial | exact sim_refl _ | exact simO_refl _ | exact subE_same rfl ren_scE | exact subE_same rfl ren_wlE | exact subE_same rfl ren_rlE | exact subE_same rfl ren_bwE | exact subE_wrE rfl rfl | exact subE_rdE rfl rfl | exact sim_wrP rfl | exact sim_rdP rfl | exact sim_bsV rfl | assumption | refine And.intro ?_ ?_)); done))) (by (repeat' (first | exact rfl | exact trivial | exact sim_refl _ | refine And.intro ?_ ?_))) (by (((repeat' (first | exact rfl | exact trivial | exact okE_scE | exact okE_wlE | exact okE_rlE | exact okE_bwE | exact okE_wrE rfl | exact okE_rdE rfl | exact okP_wrP (i := 13) rfl | exact okP_wrP (i := 15) rfl | exact okP_rdP (i := 17) rfl | exact okP_rdP (i := 19) rfl | exact okP_bsV rfl | refine And.intro ?_ ?_)); done))))
    · obtain ⟨⟨ep, sn, fl, cm, tm, ii, hd, e1⟩, ho⟩ := hx.fi rfl
      dsimp only at e1
      subst e1
      dsimp only [ssT0, ssH0, s2H0]
      rw [ho]
      refine sx hX [] 4000 rfl (by (simp [-List.getD_eq_getElem?_getD, -List.length_eq_zero_iff, conjP])) ?_
      refine sx hX [.F] 4000 rfl (by (simp [-List.getD_eq_getElem?_getD, -List.length_eq_zero_iff, conjP, addOP, hw8, hR, hj])) ?_
      refine sx hX [.F] 4000 rfl (by (simp [-List.getD_eq_getElem?_getD, -List.length_eq_zero_iff, conjP, addOP])) ?_
      refine sx hX [.T] 4000 rfl (by (simp [-List.getD_eq_getElem?_getD, -List.length_eq_zero_iff, conjP, addOP])) ?_
      refine sx hX [.T] 4000 rfl (by (simp [-List.getD_eq_getElem?_getD, -List.length_eq_zero_iff, conjP, addOP])) ?_
      (exact ss_end hX [0, 1] rfl rfl trivial rfl rfl rfl (by cases bb <;> rfl) (by (repeat' (first | exact rfl | exact trivial | exact sim_refl _ | refine And.intro ?_ ?_))) (by (((repeat' (first | exact rfl | exact trivial | exact sim_refl _ | exact simO_refl _ | exact subE_same rfl ren_scE | exact subE_same rfl ren_wlE | exact subE_same rfl ren_rlE | exact subE_same rfl ren_bwE | exact subE_wrE rfl rfl | exact subE_rdE rfl rfl | exact sim_wrP rfl | exact sim_rdP rfl | exact sim_bsV rfl | assumption | refine And.intro ?_ ?_)); done))) (by (repeat' (first | exact rfl | exact trivial | exact sim_refl _ | refine And.intro ?_ ?_))) (by (((repeat' (first | exact rfl | exact trivial | exact okE_scE | exact okE_wlE | exact okE_rlE | exact okE_bwE | exact okE_wrE rfl | exact okE_rdE rfl | exact okP_wrP (i := 13) rfl | exact okP_wrP (i := 15) rfl | exact okP_rdP (i := 17) rfl | exact okP_rdP (i := 19) rfl | exact okP_bsV rfl | refine And.intro ?_ ?_)); done))))
end
end Go.Proofs.YtmghcelohnlceaaGreatDoor

/- SmallAlone: client 1 goes on alone: the loop, the end. -/
namespace Go.Proofs.YtmghcelohnlceaaGreatDoor
open Go Go.Hx
set_option maxRecDepth 8000
section
variable {bb : Bool} {R : Int} {N i0 : Nat} {o : Nat → Int × Int} {co : Option WS} {f : Bool} {Wb : List Int} {hd0 : Bool} {x : SS1} {ρ : Nat → Nat × Nat} {w : World} {I : Act → World → Prop}
theorem tr1 (h : SInv1 R i0 co x) (hi0 : i0 ≤ 101) (hj : (x.j : Int) < 8 * R)  (J : ∀ p, TJ1 p bb R N i0 o co f Wb hd0 x ρ w I) : ∃ p, TG1 p bb R N o f Wb hd0 x ρ w I := by
  have pc : x.ph = 0 ∨ x.ph = 1 ∨ x.ph = 2 := by have := h.ph2; omega
  rcases pc with hp | hp | hp
  · obtain ⟨s, hs, _⟩ := h.on hp
    have ok : WOk R s := by have q := h.b.o1; rw [hs] at q; exact q
    have hr : ∀ ep nx sn fl tm ii hd l, x.z.c1 = some ⟨ep, nx, sn, fl, tm, ii, hd, l⟩ → wStep R ⟨ep, nx, sn, fl, tm, ii, hd, l⟩ x.z.W x.z.st = wStep R s x.z.W x.z.st := fun _ _ _ _ _ _ _ _ e => by rw [hs] at e; cases e; rfl
    have k2 := (wAft (st := x.z.st) ok h.b.hw).k2
    have kc : (wStep R s x.z.W x.z.st).k = 0 ∨ (wStep R s x.z.W x.z.st).k = 1 ∨ (wStep R s x.z.W x.z.st).k = 2 := by omega
    rcases kc with e | e | e
    · exact ts10 h hi0 hj hp hr e J
    · exact ts11 h hi0 hj hp hr e J
    · exact ts12 h hi0 hj hp hr e J
  · exact ts1e h hi0 hj hp J
  · exact ts1f h hi0 hj hp J
end
section
variable {bb : Bool} {R : Int} {N i0 : Nat} {o : Nat → Int × Int} {z0 : Wd} {ρ : Nat → Nat × Nat} {w : World}
set_option maxHeartbeats 8000000 in
theorem sz1 (hb : BInv R i0 z0) (hi0 : i0 ≤ 101) (hm : MI z0.W z0.c0 z0.c1) (hne : z0.c1 ≠ none) : SJ1 bb R N o ρ w (hdO z0.c0) z0 := by
  intro p
  have hX := hXTq p
  have r1 := hb.r1
  have r2 := hb.r2
  have hw8 : IntKind.i64.wrap 8 = 8 := by decide
  have hR : IntKind.i64.wrap (8 * R) = 8 * R := wi64 (by omega) (by omega)
  obtain ⟨s, hs⟩ : ∃ s, z0.c1 = some s := by
    rcases q : z0.c1 with _ | s
    · exact absurd q hne
    · exact ⟨s, rfl⟩
  have ok : WOk R s := by have q := hb.o1; rw [hs] at q; exact q
  dsimp only [soT1, alH2, wdH]
  refine sxb hX [.l] [] 4000 rfl (by first | exact trivial | simp [conjP]) ?_
  refine ss_sub hX (T' := ssT1 (hdO z0.c0) ⟨0, z0, 0, cl0, []⟩) (H' := ssH1 bb N o R z0.f z0.W ⟨0, z0, 0, cl0, []⟩) [0, 1, 2, 3, 4, 5, 6, 7, 8, 9, 10, 11, 12, 13, 14, 15, 16, 17, 18, 19] rfl rfl rfl (by cases bb <;> rfl) ?tt ?hh (by (repeat' (first | exact rfl | exact trivial | exact sim_refl _ | refine And.intro ?_ ?_))) ?ok ?_
  case tt => (repeat' (first | exact rfl | exact trivial | exact sim_refl _ | refine And.intro ?_ ?_)); done
  case hh => (((repeat' (first | exact rfl | exact trivial | exact sim_refl _ | exact simO_refl _ | exact subE_same rfl ren_scE | exact subE_same rfl ren_wlE | exact subE_same rfl ren_rlE | exact subE_same rfl ren_bwE | exact subE_wrE rfl rfl | exact subE_rdE rfl rfl | exact sim_wrP rfl | exact sim_rdP rfl | exact sim_bsV rfl | assumption | refine And.intro ?_ ?_)); done))
  case ok => (((repeat' (first | exact rfl | exact trivial | exact okE_scE | exact okE_wlE | exact okE_rlE | exact okE_bwE | exact okE_wrE rfl | exact okE_rdE rfl | exact okP_wrP (i := 13) rfl | exact okP_wrP (i := 15) rfl | exact okP_rdP (i := 17) rfl | exact okP_rdP (i := 19) rfl | exact okP_bsV rfl | refine And.intro ?_ ?_)); done))
  refine ss_loop hX (ssT1 (hdO z0.c0)) (ssH1 bb N o R z0.f z0.W) (SInv1 R i0 z0.c0) (fun x => (8 * R).toNat - x.j) ⟨0, z0, 0, cl0, []⟩ ⟨by (try dsimp only); omega, hb, hm, rfl, by (try dsimp only); omega, fun _ => ⟨s, hs, by have := mu_max (W := z0.W) ok; (try dsimp only); omega⟩, fun q => by simp at q, fun q => by simp at q⟩ ?_
  intro x hx I back
  by_cases hj : (x.j : Int) < 8 * R
  · obtain ⟨p', hp⟩ := tr1 (bb := bb) (N := N) (o := o) (f := z0.f) (Wb := z0.W) (hd0 := hdO z0.c0) (ρ := ρ) (w := w) (I := I) hx hi0 hj (fun p x' hx' hj' cs T H hsub => ss_sw (hXTq p) (sw_ss hX (back x' hx' (by show (8 * R).toNat - x'.j < (8 * R).toNat - x.j; omega) [] T H hsub)))
    refine sxb hX [.r 21] [] 100 rfl trivial ?_
    exact ss_sw hX (sw_ss (hXTq p') (cs := []) hp)
  · obtain ⟨j, z, ph, ob, lw⟩ := x
    dsimp only at hj
    have pc : ph = 0 ∨ ph = 1 ∨ ph = 2 := by have := hx.ph2; dsimp only at this; omega
    rcases pc with rfl | rfl | rfl
    · exfalso
      obtain ⟨s', hs', hmu⟩ := hx.on rfl
      have ok' : WOk R s' := by have q := hx.b.o1; rw [hs'] at q; exact q
      have := mu_pos (W := z.W) ok'
      dsimp only at hmu
      omega
    · obtain ⟨ep, sn, fl, cm, tm, ii, hd, c, e1, e2⟩ := hx.er rfl
      dsimp only at e1
      subst e1
      dsimp only [ssT1, ssH1, s2H1]
      rcases ho : hdO z0.c0 with _ | _
      · refine sx hX [] 4000 rfl (by (simp [-List.getD_eq_getElem?_getD, -List.length_eq_zero_iff, conjP])) ?_
        refine sx hX [.F] 4000 rfl (by (simp [-List.getD_eq_getElem?_getD, -List.length_eq_zero_iff, conjP, addOP, hw8, hR, hj])) ?_
        refine sx hX [.F] 4000 rfl (by (simp [-List.getD_eq_getElem?_getD, -List.length_eq_zero_iff, conjP])) ?_
        refine sx hX [.T] 4000 rfl (by (simp [-List.getD_eq_getElem?_getD, -List.length_eq_zero_iff, conjP, addOP])) ?_
        refine sx hX [.T] 4000 rfl (by (simp [-List.getD_eq_getElem?_getD, -List.length_eq_zero_iff, conjP, addOP])) ?_
        (exact ss_end hX [0, 1] rfl rfl trivial rfl rfl rfl (by cases bb <;> rfl) (by (repeat' (first | exact rfl | exact trivial | exact sim_refl _ | refine And.intro ?_ ?_))) (by (((repeat' (first | exact rfl | exact trivial | exact sim_refl _ | exact simO_refl _ | exact subE_same rfl ren_scE | exact subE_same rfl ren_wlE | exact subE_same rfl ren_rlE | exact subE_same rfl ren_bwE | exact subE_wrE rfl rfl | exact subE_rdE rfl rfl | exact sim_wrP rfl | exact sim_rdP rfl | exact sim_bsV rfl | assumption | refine And.intro ?_ ?_)); done))) (by (repeat' (first | exact rfl | exact trivial | exact sim_refl _ | refine And.intro ?_ ?_))) (by (((repeat' (first | exact rfl | exact trivial | exact okE_scE | exact okE_wlE | exact okE_rlE | exact okE_bwE | exact okE_wrE rfl | exact okE_rdE rfl | exact okP_wrP (i := 13) rfl | exact okP_wrP (i := 15) rfl | exact okP_rdP (i := 17) rfl | exact okP_rdP (i := 19) rfl | exact okP_bsV rfl | refine And.intro ?_ ?_)); done))))
      · rcases e2 ho with rfl | rfl
        · refine sx hX [] 4000 rfl (by (simp [-List.getD_eq_getElem?_getD, -List.length_eq_zero_iff, conjP])) ?_
          refine sx hX [.F] 4000 rfl (by (simp [-List.getD_eq_getElem?_getD, -List.length_eq_zero_iff, conjP, addOP, hw8, hR, hj])) ?_
          refine sx hX [.F] 4000 rfl (by (simp [-List.getD_eq_getElem?_getD, -List.length_eq_zero_iff, conjP])) ?_
          refine sx hX [.T] 4000 rfl (by (simp [-List.getD_eq_getElem?_getD, -List.length_eq_zero_iff, conjP, addOP])) ?_
          refine sx hX [.F] 4000 rfl (by (simp [-List.getD_eq_getElem?_getD, -List.length_eq_zero_iff, conjP, addOP])) ?_
          refine sx hX [.F] 4000 rfl (by (simp [-List.getD_eq_getElem?_getD, -List.length_eq_zero_iff, conjP, addOP])) ?_
          (exact ss_end hX [0, 1] rfl rfl trivial rfl rfl rfl (by cases bb <;> rfl) (by (repeat' (first | exact rfl | exact trivial | exact sim_refl _ | refine And.intro ?_ ?_))) (by (((repeat' (first | exact rfl | exact trivial | exact sim_refl _ | exact simO_refl _ | exact subE_same rfl ren_scE | exact subE_same rfl ren_wlE | exact subE_same rfl ren_rlE | exact subE_same rfl ren_bwE | exact subE_wrE rfl rfl | exact subE_rdE rfl rfl | exact sim_wrP rfl | exact sim_rdP rfl | exact sim_bsV rfl | assumption | refine And.intro ?_ ?_)); done))) (by (repeat' (first | exact rfl | exact trivial | exact sim_refl _ | refine And.intro ?_ ?_))) (by (((repeat' (first | exact rfl | exact trivial | exact okE_scE | exact okE_wlE | exact okE_rlE | exact okE_bwE | exact okE_wrE rfl | exact okE_rdE rfl | exact okP_wrP (i := 13) rfl | exact okP_wrP (i := 15) rfl | exact okP_rdP (i := 17) rfl | exact okP_rdP (i := 19) rfl | exact okP_bsV rfl | refine And.intro ?_ ?_)); done))))
        · refine sx hX [] 4000 rfl (by (simp [-List.getD_eq_getElem?_getD, -List.length_eq_zero_iff, conjP])) ?_
          refine sx hX [.F] 4000 rfl (by (simp [-List.getD_eq_getElem?_getD, -List.length_eq_zero_iff, conjP, addOP, hw8, hR, hj])) ?_
          refine sx hX [.F] 4000 rfl (by (simp [-List.getD_eq_getElem?_getD, -List.length_eq_zero_iff, conjP])) ?_
          refine sx hX [.T] 4000 rfl (by (simp [-List.getD_eq_getElem?_getD, -List.length_eq_zero_iff, conjP, addOP])) ?_
          refine sx hX [.F] 4000 rfl (by (simp [-List.getD_eq_getElem?_getD, -List.length_eq_zero_iff, conjP, addOP])) ?_
          refine sx hX [.T] 4000 rfl (by (simp [-List.getD_eq_getElem?_getD, -List.length_eq_zero_iff, conjP, addOP])) ?_
          (exact ss_end hX [0, 1] rfl rfl trivial rfl rfl rfl (by cases bb <;> rfl) (by (repeat' (first | exact rfl | exact trivial | exact sim_refl _ | refine And.intro ?_ ?_))) (by (((repeat' (first | exact rfl | exact trivial | exact sim_refl _ | exact simO_refl _ | exact subE_same rfl ren_scE | exact subE_same rfl ren_wlE | exact subE_same rfl ren_rlE | exact subE_same rfl ren_bwE | exact subE_wrE rfl rfl | exact subE_rdE rfl rfl | exact sim_wrP rfl | exact sim_rdP rfl | exact sim_bsV rfl | assumption | refine And.intro ?_ ?_)); done))) (by (repeat' (first | exact rfl | exact trivial | exact sim_refl _ | refine And.intro ?_ ?_))) (by (((repeat' (first | exact rfl | exact trivial | exact okE_scE | exact okE_wlE | exact okE_rlE | exact okE_bwE | exact okE_wrE rfl | exact okE_rdE rfl | exact okP_wrP (i := 13) rfl | exact okP_wrP (i := 15) rfl | exact okP_rdP (i := 17) rfl | exact okP_rdP (i := 19) rfl | exact okP_bsV rfl | refine And.intro ?_ ?_)); done))))
    · obtain ⟨⟨ep, sn, fl, cm, tm, ii, hd, e1⟩, ho⟩ := hx.fi rfl
      dsimp only at e1
      subst e1
      dsimp only [ssT1, ssH1, s2H1]
      rw [ho]
      refine sx hX [] 4000 rfl (by (simp [-List.getD_eq_getElem?_getD, -List.length_eq_zero_iff, conjP])) ?_
      refine sx hX [.F] 4000 rfl (by (simp [-List.getD_eq_getElem?_getD, -List.length_eq_zero_iff, conjP, addOP, hw8, hR, hj])) ?_
      refine sx hX [.F] 4000 rfl (by (simp [-List.getD_eq_getElem?_getD, -List.length_eq_zero_iff, conjP, addOP])) ?_
      refine sx hX [.T] 4000 rfl (by (simp [-List.getD_eq_getElem?_getD, -List.length_eq_zero_iff, conjP, addOP])) ?_
      refine sx hX [.T] 4000 rfl (by (simp [-List.getD_eq_getElem?_getD, -List.length_eq_zero_iff, conjP, addOP])) ?_
      (exact ss_end hX [0, 1] rfl rfl trivial rfl rfl rfl (by cases bb <;> rfl) (by (repeat' (first | exact rfl | exact trivial | exact sim_refl _ | refine And.intro ?_ ?_))) (by (((repeat' (first | exact rfl | exact trivial | exact sim_refl _ | exact simO_refl _ | exact subE_same rfl ren_scE | exact subE_same rfl ren_wlE | exact subE_same rfl ren_rlE | exact subE_same rfl ren_bwE | exact subE_wrE rfl rfl | exact subE_rdE rfl rfl | exact sim_wrP rfl | exact sim_rdP rfl | exact sim_bsV rfl | assumption | refine And.intro ?_ ?_)); done))) (by (repeat' (first | exact rfl | exact trivial | exact sim_refl _ | refine And.intro ?_ ?_))) (by (((repeat' (first | exact rfl | exact trivial | exact okE_scE | exact okE_wlE | exact okE_rlE | exact okE_bwE | exact okE_wrE rfl | exact okE_rdE rfl | exact okP_wrP (i := 13) rfl | exact okP_wrP (i := 15) rfl | exact okP_rdP (i := 17) rfl | exact okP_rdP (i := 19) rfl | exact okP_bsV rfl | refine And.intro ?_ ?_)); done))))
end
end Go.Proofs.YtmghcelohnlceaaGreatDoor

/- SmallAlone: client 2 goes on alone: the loop, the end. -/
namespace Go.Proofs.YtmghcelohnlceaaGreatDoor
open Go Go.Hx
set_option maxRecDepth 8000
section
variable {bb : Bool} {R : Int} {N i0 : Nat} {o : Nat → Int × Int} {f : Bool} {Wb : List Int} {hd0 : Bool} {x : SS2} {ρ : Nat → Nat × Nat} {w : World} {I : Act → World → Prop}
theorem tr2 (h : SInv2 R i0 x) (hi0 : i0 ≤ 101) (hj : (x.j : Int) < 8 * R)  (J : ∀ p, TJ2 p bb R N i0 o f Wb hd0 x ρ w I) : ∃ p, TG2 p bb R N o f Wb hd0 x ρ w I := by
  have pc : x.ph = 0 ∨ x.ph = 1 ∨ x.ph = 2 ∨ x.ph = 3 := by have := h.ph2; omega
  rcases pc with hp | hp | hp | hp
  · obtain ⟨s, hs, hmu⟩ := h.on hp
    have ok : ROk R s := by have q := h.b.o2; rw [hs] at q; exact q
    obtain ⟨ep, nx, sn, fl, tm, o'⟩ := s
    rcases o' with _ | l
    · rcases (show nx = 1 ∨ nx = 3 ∨ nx = 4 from ok.nxc) with g | g | g
      · rcases rk1 (R := R) (W := x.z.W) (st := x.z.st) (s := ⟨ep, nx, sn, fl, tm, none⟩) g with e | e
        · exact tn20 h hi0 hj hp hs hmu rfl e J
        · exact tn21 h hi0 hj hp hs hmu rfl e J
      · exact tn23 h hi0 hj hp hs hmu rfl (rk3 g) J
      · exact absurd (show (0 : Nat) = 4 from ok.w4 g) (by decide)
    · rcases (show nx = 1 ∨ nx = 3 ∨ nx = 4 from ok.nxc) with g | g | g
      · rcases rk1 (R := R) (W := x.z.W) (st := x.z.st) (s := ⟨ep, nx, sn, fl, tm, some l⟩) g with e | e
        · exact ts20 h hi0 hj hp hs hmu rfl e J
        · exact ts21 h hi0 hj hp hs hmu rfl e J
      · exact ts23 h hi0 hj hp hs hmu rfl (rk3 g) J
      · rcases rk4 (R := R) (W := x.z.W) (st := x.z.st) (s := ⟨ep, nx, sn, fl, tm, some l⟩) g with e | e | e
        · exact ts22 h hi0 hj hp hs hmu rfl e J
        · exact ts24 h hi0 hj hp hs hmu rfl e J
        · exact ts25 h hi0 hj hp hs hmu rfl e J
  · exact td21 h hi0 hj hp J
  · exact td22 h hi0 hj hp J
  · exact td23 h hi0 hj hp J
end
section
variable {bb : Bool} {R : Int} {N i0 : Nat} {o : Nat → Int × Int} {z0 : Wd} {hd0 : Bool} {ρ : Nat → Nat × Nat} {w : World}
set_option maxHeartbeats 8000000 in
theorem sz2 (hb : BInv R i0 z0) (hi0 : i0 ≤ 101) (hne : z0.c2 ≠ none) : SJ2 bb R N o ρ w hd0 z0 := by
  intro p
  have hX := hXTq p
  have r1 := hb.r1
  have r2 := hb.r2
  have hw8 : IntKind.i64.wrap 8 = 8 := by decide
  have hR : IntKind.i64.wrap (8 * R) = 8 * R := wi64 (by omega) (by omega)
  obtain ⟨s, hs⟩ : ∃ s, z0.c2 = some s := by
    rcases q : z0.c2 with _ | s
    · exact absurd q hne
    · exact ⟨s, rfl⟩
  have ok : ROk R s := by have q := hb.o2; rw [hs] at q; exact q
  dsimp only [soT2, alH2, wdH]
  refine sxb hX [.l] [] 4000 rfl (by first | exact trivial | simp [conjP]) ?_
  refine ss_sub hX (T' := ssT2 hd0 ⟨0, z0, 0, cl0, []⟩) (H' := ssH2 bb N o R z0.f z0.W ⟨0, z0, 0, cl0, []⟩) [0, 1, 2, 3, 4, 5, 6, 7, 8, 9, 10, 11, 12, 13, 14, 15, 16, 17, 18, 19] rfl rfl rfl (by cases bb <;> rfl) ?tt ?hh (by (repeat' (first | exact rfl | exact trivial | exact sim_refl _ | refine And.intro ?_ ?_))) ?ok ?_
  case tt => (repeat' (first | exact rfl | exact trivial | exact sim_refl _ | refine And.intro ?_ ?_)); done
  case hh => (((repeat' (first | exact rfl | exact trivial | exact sim_refl _ | exact simO_refl _ | exact subE_same rfl ren_scE | exact subE_same rfl ren_wlE | exact subE_same rfl ren_rlE | exact subE_same rfl ren_bwE | exact subE_wrE rfl rfl | exact subE_rdE rfl rfl | exact sim_wrP rfl | exact sim_rdP rfl | exact sim_bsV rfl | assumption | refine And.intro ?_ ?_)); done))
  case ok => (((repeat' (first | exact rfl | exact trivial | exact okE_scE | exact okE_wlE | exact okE_rlE | exact okE_bwE | exact okE_wrE rfl | exact okE_rdE rfl | exact okP_wrP (i := 13) rfl | exact okP_wrP (i := 15) rfl | exact okP_rdP (i := 17) rfl | exact okP_rdP (i := 19) rfl | exact okP_bsV rfl | refine And.intro ?_ ?_)); done))
  refine ss_loop hX (ssT2 hd0) (ssH2 bb N o R z0.f z0.W) (SInv2 R i0) (fun x => (8 * R).toNat - x.j) ⟨0, z0, 0, cl0, []⟩ ⟨by (try dsimp only); omega, hb, by (try dsimp only); omega, fun _ => ⟨s, hs, by have := mr_max (W := z0.W) ok; (try dsimp only); omega⟩, fun q => by simp at q, fun q => by simp at q, fun q => by simp at q⟩ ?_
  intro x hx I back
  by_cases hj : (x.j : Int) < 8 * R
  · obtain ⟨p', hp⟩ := tr2 (bb := bb) (N := N) (o := o) (f := z0.f) (Wb := z0.W) (hd0 := hd0) (ρ := ρ) (w := w) (I := I) hx hi0 hj (fun p x' hx' hj' cs T H hsub => ss_sw (hXTq p) (sw_ss hX (back x' hx' (by show (8 * R).toNat - x'.j < (8 * R).toNat - x.j; omega) [] T H hsub)))
    refine sxb hX [.r 21] [] 100 rfl trivial ?_
    exact ss_sw hX (sw_ss (hXTq p') (cs := []) hp)
  · obtain ⟨j, z, ph, ob, lw⟩ := x
    dsimp only at hj
    have pc : ph = 0 ∨ ph = 1 ∨ ph = 2 ∨ ph = 3 := by have := hx.ph2; dsimp only at this; omega
    rcases pc with rfl | rfl | rfl | rfl
    · exfalso
      obtain ⟨s', hs', hmu⟩ := hx.on rfl
      have ok' : ROk R s' := by have q := hx.b.o2; rw [hs'] at q; exact q
      have := mr_pos (W := z.W) ok'
      dsimp only at hmu
      omega
    · obtain ⟨ep, sn, fl, cm, tm, c, e1⟩ := hx.e1 rfl
      dsimp only at e1
      subst e1
      dsimp only [ssT2, ssH2, s2H2]
      refine sx hX [] 4000 rfl (by (simp [-List.getD_eq_getElem?_getD, -List.length_eq_zero_iff, conjP])) ?_
      refine sx hX [.F] 4000 rfl (by (simp [-List.getD_eq_getElem?_getD, -List.length_eq_zero_iff, conjP, addOP, hw8, hR, hj])) ?_
      refine sx hX [.F] 4000 rfl (by (simp [-List.getD_eq_getElem?_getD, -List.length_eq_zero_iff, conjP])) ?_
      refine sx hX [.T] 4000 rfl (by (simp [-List.getD_eq_getElem?_getD, -List.length_eq_zero_iff, conjP, addOP])) ?_
      (exact ss_end hX [0, 1] rfl rfl trivial rfl rfl rfl (by cases bb <;> rfl) (by (repeat' (first | exact rfl | exact trivial | exact sim_refl _ | refine And.intro ?_ ?_))) (by (((repeat' (first | exact rfl | exact trivial | exact sim_refl _ | exact simO_refl _ | exact subE_same rfl ren_scE | exact subE_same rfl ren_wlE | exact subE_same rfl ren_rlE | exact subE_same rfl ren_bwE | exact subE_wrE rfl rfl | exact subE_rdE rfl rfl | exact sim_wrP rfl | exact sim_rdP rfl | exact sim_bsV rfl | assumption | refine And.intro ?_ ?_)); done))) (by (repeat' (first | exact rfl | exact trivial | exact sim_refl _ | refine And.intro ?_ ?_))) (by (((repeat' (first | exact rfl | exact trivial | exact okE_scE | exact okE_wlE | exact okE_rlE | exact okE_bwE | exact okE_wrE rfl | exact okE_rdE rfl | exact okP_wrP (i := 13) rfl | exact okP_wrP (i := 15) rfl | exact okP_rdP (i := 17) rfl | exact okP_rdP (i := 19) rfl | exact okP_bsV rfl | refine And.intro ?_ ?_)); done))))
    · obtain ⟨ep, sn, fl, cm, tm, e1⟩ := hx.e2 rfl
      dsimp only at e1
      subst e1
      dsimp only [ssT2, ssH2, s2H2]
      refine sx hX [] 4000 rfl (by (simp [-List.getD_eq_getElem?_getD, -List.length_eq_zero_iff, conjP])) ?_
      refine sx hX [.F] 4000 rfl (by (simp [-List.getD_eq_getElem?_getD, -List.length_eq_zero_iff, conjP, addOP, hw8, hR, hj])) ?_
      refine sx hX [.F] 4000 rfl (by (simp [-List.getD_eq_getElem?_getD, -List.length_eq_zero_iff, conjP])) ?_
      refine sx hX [.T] 4000 rfl (by (simp [-List.getD_eq_getElem?_getD, -List.length_eq_zero_iff, conjP, addOP])) ?_
      (exact ss_end hX [0, 1] rfl rfl trivial rfl rfl rfl (by cases bb <;> rfl) (by (repeat' (first | exact rfl | exact trivial | exact sim_refl _ | refine And.intro ?_ ?_))) (by (((repeat' (first | exact rfl | exact trivial | exact sim_refl _ | exact simO_refl _ | exact subE_same rfl ren_scE | exact subE_same rfl ren_wlE | exact subE_same rfl ren_rlE | exact subE_same rfl ren_bwE | exact subE_wrE rfl rfl | exact subE_rdE rfl rfl | exact sim_wrP rfl | exact sim_rdP rfl | exact sim_bsV rfl | assumption | refine And.intro ?_ ?_)); done))) (by (repeat' (first | exact rfl | exact trivial | exact sim_refl _ | refine And.intro ?_ ?_))) (by (((repeat' (first | exact rfl | exact trivial | exact okE_scE | exact okE_wlE | exact okE_rlE | exact okE_bwE | exact okE_wrE rfl | exact okE_rdE rfl | exact okP_wrP (i := 13) rfl | exact okP_wrP (i := 15) rfl | exact okP_rdP (i := 17) rfl | exact okP_rdP (i := 19) rfl | exact okP_bsV rfl | refine And.intro ?_ ?_)); done))))
    · obtain ⟨ep, sn, fl, cm, tm, c, e1⟩ := hx.e3 rfl
      dsimp only at e1
      subst e1
      dsimp only [ssT2, ssH2, s2H2]
      refine sx hX [] 4000 rfl (by (simp [-List.getD_eq_getElem?_getD, -List.length_eq_zero_iff, conjP])) ?_
      refine sx hX [.F] 4000 rfl (by (simp [-List.getD_eq_getElem?_getD, -List.length_eq_zero_iff, conjP, addOP, hw8, hR, hj])) ?_
      refine sx hX [.F] 4000 rfl (by (simp [-List.getD_eq_getElem?_getD, -List.length_eq_zero_iff, conjP])) ?_
      refine sx hX [.T] 4000 rfl (by (simp [-List.getD_eq_getElem?_getD, -List.length_eq_zero_iff, conjP, addOP])) ?_
      (exact ss_end hX [0, 1] rfl rfl trivial rfl rfl rfl (by cases bb <;> rfl) (by (repeat' (first | exact rfl | exact trivial | exact sim_refl _ | refine And.intro ?_ ?_))) (by (((repeat' (first | exact rfl | exact trivial | exact sim_refl _ | exact simO_refl _ | exact subE_same rfl ren_scE | exact subE_same rfl ren_wlE | exact subE_same rfl ren_rlE | exact subE_same rfl ren_bwE | exact subE_wrE rfl rfl | exact subE_rdE rfl rfl | exact sim_wrP rfl | exact sim_rdP rfl | exact sim_bsV rfl | assumption | refine And.intro ?_ ?_)); done))) (by (repeat' (first | exact rfl | exact trivial | exact sim_refl _ | refine And.intro ?_ ?_))) (by (((repeat' (first | exact rfl | exact trivial | exact okE_scE | exact okE_wlE | exact okE_rlE | exact okE_bwE | exact okE_wrE rfl | exact okE_rdE rfl | exact okP_wrP (i := 13) rfl | exact okP_wrP (i := 15) rfl | exact okP_rdP (i := 17) rfl | exact okP_rdP (i := 19) rfl | exact okP_bsV rfl | refine And.intro ?_ ?_)); done))))
end
end Go.Proofs.YtmghcelohnlceaaGreatDoor

/- SmallAlone: client 3 goes on alone: the loop, the end. -/
namespace Go.Proofs.YtmghcelohnlceaaGreatDoor
open Go Go.Hx
set_option maxRecDepth 8000
section
variable {bb : Bool} {R : Int} {N i0 : Nat} {o : Nat → Int × Int} {f : Bool} {Wb : List Int} {hd0 : Bool} {x : SS3} {ρ : Nat → Nat × Nat} {w : World} {I : Act → World → Prop}
theorem tr3 (h : SInv3 R i0 x) (hi0 : i0 ≤ 101) (hj : (x.j : Int) < 8 * R)  (J : ∀ p, TJ3 p bb R N i0 o f Wb hd0 x ρ w I) : ∃ p, TG3 p bb R N o f Wb hd0 x ρ w I := by
  have pc : x.ph = 0 ∨ x.ph = 1 ∨ x.ph = 2 ∨ x.ph = 3 := by have := h.ph2; omega
  rcases pc with hp | hp | hp | hp
  · obtain ⟨s, hs, hmu⟩ := h.on hp
    have ok : ROk R s := by have q := h.b.o3; rw [hs] at q; exact q
    obtain ⟨ep, nx, sn, fl, tm, o'⟩ := s
    rcases o' with _ | l
    · rcases (show nx = 1 ∨ nx = 3 ∨ nx = 4 from ok.nxc) with g | g | g
      · rcases rk1 (R := R) (W := x.z.W) (st := x.z.st) (s := ⟨ep, nx, sn, fl, tm, none⟩) g with e | e
        · exact tn30 h hi0 hj hp hs hmu rfl e J
        · exact tn31 h hi0 hj hp hs hmu rfl e J
      · exact tn33 h hi0 hj hp hs hmu rfl (rk3 g) J
      · exact absurd (show (0 : Nat) = 4 from ok.w4 g) (by decide)
    · rcases (show nx = 1 ∨ nx = 3 ∨ nx = 4 from ok.nxc) with g | g | g
      · rcases rk1 (R := R) (W := x.z.W) (st := x.z.st) (s := ⟨ep, nx, sn, fl, tm, some l⟩) g with e | e
        · exact ts30 h hi0 hj hp hs hmu rfl e J
        · exact ts31 h hi0 hj hp hs hmu rfl e J
      · exact ts33 h hi0 hj hp hs hmu rfl (rk3 g) J
      · rcases rk4 (R := R) (W := x.z.W) (st := x.z.st) (s := ⟨ep, nx, sn, fl, tm, some l⟩) g with e | e | e
        · exact ts32 h hi0 hj hp hs hmu rfl e J
        · exact ts34 h hi0 hj hp hs hmu rfl e J
        · exact ts35 h hi0 hj hp hs hmu rfl e J
  · exact td31 h hi0 hj hp J
  · exact td32 h hi0 hj hp J
  · exact td33 h hi0 hj hp J
end
section
variable {bb : Bool} {R : Int} {N i0 : Nat} {o : Nat → Int × Int} {z0 : Wd} {hd0 : Bool} {ρ : Nat → Nat × Nat} {w : World}
set_option maxHeartbeats 8000000 in
theorem sz3 (hb : BInv R i0 z0) (hi0 : i0 ≤ 101) (hne : z0.c3 ≠ none) : SJ3 bb R N o ρ w hd0 z0 := by
  intro p
  have hX := hXTq p
  have r1 := hb.r1
  have r2 := hb.r2
  have hw8 : IntKind.i64.wrap 8 = 8 := by decide
  have hR : IntKind.i64.wrap (8 * R) = 8 * R := wi64 (by omega) (by omega)
  obtain ⟨s, hs⟩ : ∃ s, z0.c3 = some s := by
    rcases q : z0.c3 with _ | s
    · exact absurd q hne
    · exact ⟨s, rfl⟩
  have ok : ROk R s := by have q := hb.o3; rw [hs] at q; exact q
  dsimp only [soT3, alH2, wdH]
  refine sxb hX [.l] [] 4000 rfl (by first | exact trivial | simp [conjP]) ?_
  refine ss_sub hX (T' := ssT3 hd0 ⟨0, z0, 0, cl0, []⟩) (H' := ssH3 bb N o R z0.f z0.W ⟨0, z0, 0, cl0, []⟩) [0, 1, 2, 3, 4, 5, 6, 7, 8, 9, 10, 11, 12, 13, 14, 15, 16, 17, 18, 19] rfl rfl rfl (by cases bb <;> rfl) ?tt ?hh (by (repeat' (first | exact rfl | exact trivial | exact sim_refl _ | refine And.intro ?_ ?_))) ?ok ?_
  case tt => (repeat' (first | exact rfl | exact trivial | exact sim_refl _ | refine And.intro ?_ ?_)); done
  case hh => (((repeat' (first | exact rfl | exact trivial | exact sim_refl _ | exact simO_refl _ | exact subE_same rfl ren_scE | exact subE_same rfl ren_wlE | exact subE_same rfl ren_rlE | exact subE_same rfl ren_bwE | exact subE_wrE rfl rfl | exact subE_rdE rfl rfl | exact sim_wrP rfl | exact sim_rdP rfl | exact sim_bsV rfl | assumption | refine And.intro ?_ ?_)); done))
  case ok => (((repeat' (first | exact rfl | exact trivial | exact okE_scE | exact okE_wlE | exact okE_rlE | exact okE_bwE | exact okE_wrE rfl | exact okE_rdE rfl | exact okP_wrP (i := 13) rfl | exact okP_wrP (i := 15) rfl | exact okP_rdP (i := 17) rfl | exact okP_rdP (i := 19) rfl | exact okP_bsV rfl | refine And.intro ?_ ?_)); done))
  refine ss_loop hX (ssT3 hd0) (ssH3 bb N o R z0.f z0.W) (SInv3 R i0) (fun x => (8 * R).toNat - x.j) ⟨0, z0, 0, cl0, []⟩ ⟨by (try dsimp only); omega, hb, by (try dsimp only); omega, fun _ => ⟨s, hs, by have := mr_max (W := z0.W) ok; (try dsimp only); omega⟩, fun q => by simp at q, fun q => by simp at q, fun q => by simp at q⟩ ?_
  intro x hx I back
  by_cases hj : (x.j : Int) < 8 * R
  · obtain ⟨p', hp⟩ := tr3 (bb := bb) (N := N) (o := o) (f := z0.f) (Wb := z0.W) (hd0 := hd0) (ρ := ρ) (w := w) (I := I) hx hi0 hj (fun p x' hx' hj' cs T H hsub => ss_sw (hXTq p) (sw_ss hX (back x' hx' (by show (8 * R).toNat - x'.j < (8 * R).toNat - x.j; omega) [] T H hsub)))
    refine sxb hX [.r 21] [] 100 rfl trivial ?_
    exact ss_sw hX (sw_ss (hXTq p') (cs := []) hp)
  · obtain ⟨j, z, ph, ob, lw⟩ := x
    dsimp only at hj
    have pc : ph = 0 ∨ ph = 1 ∨ ph = 2 ∨ ph = 3 := by have := hx.ph2; dsimp only at this; omega
    rcases pc with rfl | rfl | rfl | rfl
    · exfalso
      obtain ⟨s', hs', hmu⟩ := hx.on rfl
      have ok' : ROk R s' := by have q := hx.b.o3; rw [hs'] at q; exact q
      have := mr_pos (W := z.W) ok'
      dsimp only at hmu
      omega
    · obtain ⟨ep, sn, fl, cm, tm, c, e1⟩ := hx.e1 rfl
      dsimp only at e1
      subst e1
      dsimp only [ssT3, ssH3, s2H3]
      refine sx hX [] 4000 rfl (by (simp [-List.getD_eq_getElem?_getD, -List.length_eq_zero_iff, conjP])) ?_
      refine sx hX [.F] 4000 rfl (by (simp [-List.getD_eq_getElem?_getD, -List.length_eq_zero_iff, conjP, addOP, hw8, hR, hj])) ?_
      refine sx hX [.F] 4000 rfl (by (simp [-List.getD_eq_getElem?_getD, -List.length_eq_zero_iff, conjP])) ?_
      refine sx hX [.T] 4000 rfl (by (simp [-List.getD_eq_getElem?_getD, -List.length_eq_zero_iff, conjP, addOP])) ?_
      (exact ss_end hX [0, 1] rfl rfl trivial rfl rfl rfl (by cases bb <;> rfl) (by (repeat' (first | exact rfl | exact trivial | exact sim_refl _ | refine And.intro ?_ ?_))) (by (((repeat' (first | exact rfl | exact trivial | exact sim_refl _ | exact simO_refl _ | exact subE_same rfl ren_scE | exact subE_same rfl ren_wlE | exact subE_same rfl ren_rlE | exact subE_same rfl ren_bwE | exact subE_wrE rfl rfl | exact subE_rdE rfl rfl | exact sim_wrP rfl | exact sim_rdP rfl | exact sim_bsV rfl | assumption | refine And.intro ?_ ?_)); done))) (by (repeat' (first | exact rfl | exact trivial | exact sim_refl _ | refine And.intro ?_ ?_))) (by (((repeat' (first | exact rfl | exact trivial | exact okE_scE | exact okE_wlE | exact okE_rlE | exact okE_bwE | exact okE_wrE rfl | exact okE_rdE rfl | exact okP_wrP (i := 13) rfl | exact okP_wrP (i := 15) rfl | exact okP_rdP (i := 17) rfl | exact okP_rdP (i := 19) rfl | exact okP_bsV rfl | refine And.intro ?_ ?_)); done))))
    · obtain ⟨ep, sn, fl, cm, tm, e1⟩ := hx.e2 rfl
      dsimp only at e1
      subst e1
      dsimp only [ssT3, ssH3, s2H3]
      refine sx hX [] 4000 rfl (by (simp [-List.getD_eq_getElem?_getD, -List.length_eq_zero_iff, conjP])) ?_
      refine sx hX [.F] 4000 rfl (by (simp [-List.getD_eq_getElem?_getD, -List.length_eq_zero_iff, conjP, addOP, hw8, hR, hj])) ?_
      refine sx hX [.F] 4000 rfl (by (simp [-List.getD_eq_getElem?_getD, -List.length_eq_zero_iff, conjP])) ?_
      refine sx hX [.T] 4000 rfl (by (simp [-List.getD_eq_getElem?_getD, -List.length_eq_zero_iff, conjP, addOP])) ?_
      (exact ss_end hX [0, 1] rfl rfl trivial rfl rfl rfl (by cases bb <;> rfl) (by (repeat' (first | exact rfl | exact trivial | exact sim_refl _ | refine And.intro ?_ ?_))) (by (((repeat' (first | exact rfl | exact trivial | exact sim_refl _ | exact simO_refl _ | exact subE_same rfl ren_scE | exact subE_same rfl ren_wlE | exact subE_same rfl ren_rlE | exact subE_same rfl ren_bwE | exact subE_wrE rfl rfl | exact subE_rdE rfl rfl | exact sim_wrP rfl | exact sim_rdP rfl | exact sim_bsV rfl | assumption | refine And.intro ?_ ?_)); done))) (by (repeat' (first | exact rfl | exact trivial | exact sim_refl _ | refine And.intro ?_ ?_))) (by (((repeat' (first | exact rfl | exact trivial | exact okE_scE | exact okE_wlE | exact okE_rlE | exact okE_bwE | exact okE_wrE rfl | exact okE_rdE rfl | exact okP_wrP (i := 13) rfl | exact okP_wrP (i := 15) rfl | exact okP_rdP (i := 17) rfl | exact okP_rdP (i := 19) rfl | exact okP_bsV rfl | refine And.intro ?_ ?_)); done))))
    · obtain ⟨ep, sn, fl, cm, tm, c, e1⟩ := hx.e3 rfl
      dsimp only at e1
      subst e1
      dsimp only [ssT3, ssH3, s2H3]
      refine sx hX [] 4000 rfl (by (simp [-List.getD_eq_getElem?_getD, -List.length_eq_zero_iff, conjP])) ?_
      refine sx hX [.F] 4000 rfl (by (simp [-List.getD_eq_getElem?_getD, -List.length_eq_zero_iff, conjP, addOP, hw8, hR, hj])) ?_
      refine sx hX [.F] 4000 rfl (by (simp [-List.getD_eq_getElem?_getD, -List.length_eq_zero_iff, conjP])) ?_
      refine sx hX [.T] 4000 rfl (by (simp [-List.getD_eq_getElem?_getD, -List.length_eq_zero_iff, conjP, addOP])) ?_
      (exact ss_end hX [0, 1] rfl rfl trivial rfl rfl rfl (by cases bb <;> rfl) (by (repeat' (first | exact rfl | exact trivial | exact sim_refl _ | refine And.intro ?_ ?_))) (by (((repeat' (first | exact rfl | exact trivial | exact sim_refl _ | exact simO_refl _ | exact subE_same rfl ren_scE | exact subE_same rfl ren_wlE | exact subE_same rfl ren_rlE | exact subE_same rfl ren_bwE | exact subE_wrE rfl rfl | exact subE_rdE rfl rfl | exact sim_wrP rfl | exact sim_rdP rfl | exact sim_bsV rfl | assumption | refine And.intro ?_ ?_)); done))) (by (repeat' (first | exact rfl | exact trivial | exact sim_refl _ | refine And.intro ?_ ?_))) (by (((repeat' (first | exact rfl | exact trivial | exact okE_scE | exact okE_wlE | exact okE_rlE | exact okE_bwE | exact okE_wrE rfl | exact okE_rdE rfl | exact okP_wrP (i := 13) rfl | exact okP_wrP (i := 15) rfl | exact okP_rdP (i := 17) rfl | exact okP_rdP (i := 19) rfl | exact okP_bsV rfl | refine And.intro ?_ ?_)); done))))
end
end Go.Proofs.YtmghcelohnlceaaGreatDoor
