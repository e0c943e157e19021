/- SmallAlone: a run that goes on alone is done within Small, and four steps for each attempt, if nobody else holds the topic, and even if. -/
import Derived.Test.YtmghcelohnlceaaGreatDoorAloneTurnA
import Derived.Test.YtmghcelohnlceaaGreatDoorAloneTurnB
import Derived.Test.YtmghcelohnlceaaGreatDoorAloneLoop
import Derived.Test.YtmghcelohnlceaaGreatDoorAloneMade
namespace Go.Proofs.YtmghcelohnlceaaGreatDoor
open Go Go.Hx
set_option maxRecDepth 8000
section
variable {R q : Int} {N cap : Nat} {o : Nat → Int × Int} {x : AS} {ρ : Nat → Nat × Nat} {w : World} {I : Act → World → Prop}

theorem at0 (h : AInv R N x) (hin : x.i < N) (hi : x.i < 100) (ha : a3 (o x.i).1 = 0) (hb : bkB (o x.i).1 (o x.i).2 (hdO x.z.c0) (hdO x.z.c1) = false) (J : ∀ p, AJ0 p R q N cap o x ρ w I) : ∃ p, AG0 p R q N cap o x ρ w I := by
  rcases hc : x.z.c0 with _ | ⟨ep, nx, sn, fl, tm, ii, hd, l⟩
  · obtain ⟨q1, q2, q3⟩ := w_nx1 (R := R) (W := x.z.W) (st := x.z.st) (s := ⟨epW (x.z.W.getD 7 0), 1, 0, 0, 0, 0, false, List.replicate (1 + a3 (o x.i).2).toNat (x.z.n + 1)⟩) rfl
    by_cases e0 : (wStep R ⟨epW (x.z.W.getD 7 0), 1, 0, 0, 0, 0, false, List.replicate (1 + a3 (o x.i).2).toNat (x.z.n + 1)⟩ x.z.W x.z.st).k = 0
    · exact aw0iA h hin hi ha hb hc rfl e0 J
    · exact aw0iD h hin hi ha hb hc rfl (by omega) J
  · have ok : WOk R ⟨ep, nx, sn, fl, tm, ii, hd, l⟩ := by have q := h.b.o0; rw [hc] at q; exact q
    have k2 := (wAft (st := x.z.st) ok h.b.hw).k2
    have kc : (wStep R ⟨ep, nx, sn, fl, tm, ii, hd, l⟩ x.z.W x.z.st).k = 0 ∨ (wStep R ⟨ep, nx, sn, fl, tm, ii, hd, l⟩ x.z.W x.z.st).k = 1 ∨ (wStep R ⟨ep, nx, sn, fl, tm, ii, hd, l⟩ x.z.W x.z.st).k = 2 := by omega
    rcases kc with e | e | e
    · exact aw0A h hin hi ha hb hc rfl e J
    · exact aw0D h hin hi ha hb hc rfl e J
    · exact aw0E h hin hi ha hb hc rfl e J
theorem at1 (h : AInv R N x) (hin : x.i < N) (hi : x.i < 100) (ha : a3 (o x.i).1 = 1) (hb : bkB (o x.i).1 (o x.i).2 (hdO x.z.c0) (hdO x.z.c1) = false) (J : ∀ p, AJ0 p R q N cap o x ρ w I) : ∃ p, AG0 p R q N cap o x ρ w I := by
  rcases hc : x.z.c1 with _ | ⟨ep, nx, sn, fl, tm, ii, hd, l⟩
  · obtain ⟨q1, q2, q3⟩ := w_nx1 (R := R) (W := x.z.W) (st := x.z.st) (s := ⟨epW (x.z.W.getD 7 0), 1, 0, 0, 0, 0, false, List.replicate (1 + a3 (o x.i).2).toNat (x.z.n + 1)⟩) rfl
    by_cases e0 : (wStep R ⟨epW (x.z.W.getD 7 0), 1, 0, 0, 0, 0, false, List.replicate (1 + a3 (o x.i).2).toNat (x.z.n + 1)⟩ x.z.W x.z.st).k = 0
    · exact aw1iA h hin hi ha hb hc rfl e0 J
    · exact aw1iD h hin hi ha hb hc rfl (by omega) J
  · have ok : WOk R ⟨ep, nx, sn, fl, tm, ii, hd, l⟩ := by have q := h.b.o1; rw [hc] at q; exact q
    have k2 := (wAft (st := x.z.st) ok h.b.hw).k2
    have kc : (wStep R ⟨ep, nx, sn, fl, tm, ii, hd, l⟩ x.z.W x.z.st).k = 0 ∨ (wStep R ⟨ep, nx, sn, fl, tm, ii, hd, l⟩ x.z.W x.z.st).k = 1 ∨ (wStep R ⟨ep, nx, sn, fl, tm, ii, hd, l⟩ x.z.W x.z.st).k = 2 := by omega
    rcases kc with e | e | e
    · exact aw1A h hin hi ha hb hc rfl e J
    · exact aw1D h hin hi ha hb hc rfl e J
    · exact aw1E h hin hi ha hb hc rfl e J
theorem at2 (h : AInv R N x) (hin : x.i < N) (hi : x.i < 100) (ha : a3 (o x.i).1 = 2) (hb : bkB (o x.i).1 (o x.i).2 (hdO x.z.c0) (hdO x.z.c1) = false) (J : ∀ p, AJ0 p R q N cap o x ρ w I) : ∃ p, AG0 p R q N cap o x ρ w I := by
  rcases hc : x.z.c2 with _ | ⟨ep, nx, sn, fl, tm, o'⟩
  · rcases rk1 (R := R) (W := x.z.W) (st := x.z.st) (s := ⟨epW (x.z.W.getD 7 0), 1, 0, 0, 0, none⟩) rfl with e | e
    · exact ar2i0 h hin hi ha hb hc rfl e J
    · exact ar2i1 h hin hi ha hb hc rfl e J
  · have ok : ROk R ⟨ep, nx, sn, fl, tm, o'⟩ := by have q := h.b.o2; rw [hc] at q; exact q
    rcases o' with _ | l
    · rcases (show nx = 1 ∨ nx = 3 ∨ nx = 4 from ok.nxc) with g | g | g
      · rcases rk1 (R := R) (W := x.z.W) (st := x.z.st) (s := ⟨ep, nx, sn, fl, tm, none⟩) g with e | e
        · exact ar2n0 h hin hi ha hb hc rfl e J
        · exact ar2n1 h hin hi ha hb hc rfl e J
      · exact ar2n3 h hin hi ha hb hc rfl (rk3 g) J
      · exact absurd (show (0 : Nat) = 4 from ok.w4 g) (by decide)
    · rcases (show nx = 1 ∨ nx = 3 ∨ nx = 4 from ok.nxc) with g | g | g
      · rcases rk1 (R := R) (W := x.z.W) (st := x.z.st) (s := ⟨ep, nx, sn, fl, tm, some l⟩) g with e | e
        · exact ar2s0 h hin hi ha hb hc rfl e J
        · exact ar2s1 h hin hi ha hb hc rfl e J
      · exact ar2s3 h hin hi ha hb hc rfl (rk3 g) J
      · rcases rk4 (R := R) (W := x.z.W) (st := x.z.st) (s := ⟨ep, nx, sn, fl, tm, some l⟩) g with e | e | e
        · exact ar2s2 h hin hi ha hb hc rfl e J
        · exact ar2s4 h hin hi ha hb hc rfl e J
        · exact ar2s5 h hin hi ha hb hc rfl e J
theorem at3 (h : AInv R N x) (hin : x.i < N) (hi : x.i < 100) (ha : a3 (o x.i).1 = 3) (hb : bkB (o x.i).1 (o x.i).2 (hdO x.z.c0) (hdO x.z.c1) = false) (J : ∀ p, AJ0 p R q N cap o x ρ w I) : ∃ p, AG0 p R q N cap o x ρ w I := by
  rcases hc : x.z.c3 with _ | ⟨ep, nx, sn, fl, tm, o'⟩
  · rcases rk1 (R := R) (W := x.z.W) (st := x.z.st) (s := ⟨epW (x.z.W.getD 7 0), 1, 0, 0, 0, none⟩) rfl with e | e
    · exact ar3i0 h hin hi ha hb hc rfl e J
    · exact ar3i1 h hin hi ha hb hc rfl e J
  · have ok : ROk R ⟨ep, nx, sn, fl, tm, o'⟩ := by have q := h.b.o3; rw [hc] at q; exact q
    rcases o' with _ | l
    · rcases (show nx = 1 ∨ nx = 3 ∨ nx = 4 from ok.nxc) with g | g | g
      · rcases rk1 (R := R) (W := x.z.W) (st := x.z.st) (s := ⟨ep, nx, sn, fl, tm, none⟩) g with e | e
        · exact ar3n0 h hin hi ha hb hc rfl e J
        · exact ar3n1 h hin hi ha hb hc rfl e J
      · exact ar3n3 h hin hi ha hb hc rfl (rk3 g) J
      · exact absurd (show (0 : Nat) = 4 from ok.w4 g) (by decide)
    · rcases (show nx = 1 ∨ nx = 3 ∨ nx = 4 from ok.nxc) with g | g | g
      · rcases rk1 (R := R) (W := x.z.W) (st := x.z.st) (s := ⟨ep, nx, sn, fl, tm, some l⟩) g with e | e
        · exact ar3s0 h hin hi ha hb hc rfl e J
        · exact ar3s1 h hin hi ha hb hc rfl e J
      · exact ar3s3 h hin hi ha hb hc rfl (rk3 g) J
      · rcases rk4 (R := R) (W := x.z.W) (st := x.z.st) (s := ⟨ep, nx, sn, fl, tm, some l⟩) g with e | e | e
        · exact ar3s2 h hin hi ha hb hc rfl e J
        · exact ar3s4 h hin hi ha hb hc rfl e J
        · exact ar3s5 h hin hi ha hb hc rfl e J
set_option maxHeartbeats 4000000 in
theorem atB (h : AInv R N x) (hin : x.i < N) (hi : x.i < 100) (hb : bkB (o x.i).1 (o x.i).2 (hdO x.z.c0) (hdO x.z.c1) = true) (J : ∀ p, AJ0 p R q N cap o x ρ w I) : ∃ p, AG0 p R q N cap o x ρ w I := by
  have F := h.facts hin hi
  obtain ⟨i, ⟨W, st, kd, wd, vl, ch, stb, kdb, wdb, vlb, chb, f, n, c0, c1, c2, c3, p0, q0, p1, q1, p2, q2, p3, q3, d0, d1, d2, d3⟩⟩ := x
  dsimp only at hin hi hb F
  have b := h.b
  obtain ⟨hin1, hi1, ewi, r1, r2, hl, hl16, w0, w1, s0, s1, n0, n1⟩ := F
  have t0 : 0 ≤ stb := b.t0
  have t1 : stb < 1000000 := by have h1 : stb ≤ 100 + 2 * (i : Int) := b.t1; omega
  obtain ⟨k0, k1⟩ := bk_hd hb
  have hLn : (((W.set 7 (goneW (W.getD 7 0))).set 7 (bornW (goneW (W.getD 7 0))))).length = 21 := by simp only [List.length_set]; exact hl
  have hWn : ∀ j, 0 ≤ (((W.set 7 (goneW (W.getD 7 0))).set 7 (bornW (goneW (W.getD 7 0))))).getD j 0 ∧ (((W.set 7 (goneW (W.getD 7 0))).set 7 (bornW (goneW (W.getD 7 0))))).getD j 0 < 18446744073709551616 := rg_set (rg_set b.hw gone_r.1 gone_r.2) (born_r gone_r.1).1 (born_r gone_r.1).2
  refine ⟨⟨f, c0, c1, true, 0, false, 0, w00, r00⟩, ?_⟩
  have hX := hXTu ⟨f, c0, c1, true, 0, false, 0, w00, r00⟩
  dsimp only [AG0, alT, alH, wdH]
  refine sx hX [] 4000 rfl (by (simp [-List.getD_eq_getElem?_getD, -List.length_eq_zero_iff, conjP] <;> (first | omega | ((repeat' (refine And.intro ?_ ?_)) <;> (first | omega | exact decide_eq_false (by omega) | exact decide_eq_true (by omega)))))) ?_
  refine sx hX [.T] 4000 rfl (by (simp [-List.getD_eq_getElem?_getD, -List.length_eq_zero_iff, conjP, addOP, hin1] <;> (first | omega | ((repeat' (refine And.intro ?_ ?_)) <;> (first | omega | exact decide_eq_false (by omega) | exact decide_eq_true (by omega)))))) ?_
  refine sx hX [.T] 4000 rfl (by (simp [-List.getD_eq_getElem?_getD, -List.length_eq_zero_iff, conjP, hin, hin1, hi1, hb, r1, r2, hl, w0, w1, s0, s1, t0, t1, Int.toNat_natCast] <;> (first | omega | ((repeat' (refine And.intro ?_ ?_)) <;> (first | omega | exact decide_eq_false (by omega) | exact decide_eq_true (by omega)))))) ?_
  refine sx hX [.T] 4000 rfl (by (simp [-List.getD_eq_getElem?_getD, -List.length_eq_zero_iff, conjP, addOP] <;> (first | omega | ((repeat' (refine And.intro ?_ ?_)) <;> (first | omega | exact decide_eq_false (by omega) | exact decide_eq_true (by omega)))))) ?_
  (refine J _ ⟨i + 1, ⟨((W.set 7 (goneW (W.getD 7 0))).set 7 (bornW (goneW (W.getD 7 0)))), st + 1 + 1, 2, 7, (bornW (goneW (W.getD 7 0))), true, stb + 1 + 1, 2, 7, (bornW (goneW (W.getD 7 0))), true, f, n, c0, c1, c2, c3, p0, q0, p1, q1, p2, q2, p3, q3, d0, d1, d2, d3⟩⟩ ?iv rfl _ _ _ (sub_of [0, 1, 2, 3, 4, 5, 6, 7, 8, 9, 10, 11, 12, 13, 14, 15, 16, 17, 18, 19] rfl rfl rfl rfl ?tt ?hh (by (repeat' (first | exact rfl | exact trivial | exact sim_refl _ | refine And.intro ?_ ?_))) ?ok); (case tt => simp only [ewi]; (repeat' (first | exact rfl | exact trivial | exact sim_refl _ | refine And.intro ?_ ?_)); done); (case hh => (((repeat' (first | exact rfl | exact trivial | exact sim_refl _ | exact simO_refl _ | exact subE_same rfl ren_scE | exact subE_same rfl ren_wlE | exact subE_same rfl ren_rlE | exact subE_same rfl ren_bwE | exact subE_wrE rfl rfl | exact subE_rdE rfl rfl | exact sim_wrP rfl | exact sim_rdP rfl | exact sim_bsV rfl | assumption | refine And.intro ?_ ?_)); done))); (case ok => (((repeat' (first | exact rfl | exact trivial | exact okE_scE | exact okE_wlE | exact okE_rlE | exact okE_bwE | exact okE_wrE rfl | exact okE_rdE rfl | exact okP_wrP (i := 13) rfl | exact okP_wrP (i := 15) rfl | exact okP_rdP (i := 17) rfl | exact okP_rdP (i := 19) rfl | exact okP_bsV rfl | refine And.intro ?_ ?_)); done))); (case iv => exact AInv.next h (z' := ⟨((W.set 7 (goneW (W.getD 7 0))).set 7 (bornW (goneW (W.getD 7 0)))), st + 1 + 1, 2, 7, (bornW (goneW (W.getD 7 0))), true, stb + 1 + 1, 2, 7, (bornW (goneW (W.getD 7 0))), true, f, n, c0, c1, c2, c3, p0, q0, p1, q1, p2, q2, p3, q3, d0, d1, d2, d3⟩) (BInv.next b (z' := ⟨((W.set 7 (goneW (W.getD 7 0))).set 7 (bornW (goneW (W.getD 7 0)))), st + 1 + 1, 2, 7, (bornW (goneW (W.getD 7 0))), true, stb + 1 + 1, 2, 7, (bornW (goneW (W.getD 7 0))), true, f, n, c0, c1, c2, c3, p0, q0, p1, q1, p2, q2, p3, q3, d0, d1, d2, d3⟩) (by show i + 1 ≤ 10000; omega) hLn hWn (by show st ≤ st + 1 + 1; omega) (by show st + 1 + 1 ≤ st + 2; omega) (by show stb ≤ stb + 1 + 1; omega) (by show stb + 1 + 1 ≤ stb + 2; omega) (by show n ≤ n; omega) (by show n ≤ n + 1; omega) b.o0 b.o1 b.o2 b.o3) (by show i + 1 ≤ N; omega) (by show i + 1 ≤ 100; omega) (MI.idle b.o0 b.o1 k0 k1)))
theorem atA (h : AInv R N x) (hin : x.i < N) (hi : x.i < 100) (J : ∀ p, AJ0 p R q N cap o x ρ w I) : ∃ p, AG0 p R q N cap o x ρ w I := by
  rcases hb : bkB (o x.i).1 (o x.i).2 (hdO x.z.c0) (hdO x.z.c1) with _ | _
  · rcases a3_cases (o x.i).1 with ha | ha | ha | ha
    · exact at0 h hin hi ha hb J
    · exact at1 h hin hi ha hb J
    · exact at2 h hin hi ha hb J
    · exact at3 h hin hi ha hb J
  · exact atB h hin hi hb J
end
section
variable {bb : Bool} {R q : Int} {N : Nat} {o : Nat → Int × Int} {x : AS} {ρ : Nat → Nat × Nat} {w : World}
theorem solo (h : AInv R N x) : ∃ p, SS (hXTq p) (At ρ w) (Is .tt [scE bb N o, pinE RTV]) ⟨[], [], Tryz.f3, Tryz.f3.ntmps, [scE bb N o, pinE RTV], contF Tryz.f3 17 [], alT2 q, alH2 bb N o R x.z⟩ := by
  have hi : x.i + 1 ≤ 101 := by have := h.hi; omega
  rcases a3_cases q with ha | ha | ha | ha
  · rcases hc : x.z.c0 with _ | ⟨ep, nx, sn, fl, tm, ii, hd, l⟩
    · exact so0i h ha hc fun z' b m e ne => by rw [← e]; exact sz0 b hi m ne
    · exact so0b h ha hc fun b m => sz0 b hi m (by rw [hc]; exact fun e => by cases e)
  · rcases hc : x.z.c1 with _ | ⟨ep, nx, sn, fl, tm, ii, hd, l⟩
    · exact so1i h ha hc fun z' b m e ne => by rw [← e]; exact sz1 b hi m ne
    · exact so1b h ha hc fun b m => sz1 b hi m (by rw [hc]; exact fun e => by cases e)
  · rcases hc : x.z.c2 with _ | ⟨ep, nx, sn, fl, tm, o'⟩
    · exact so2i h ha hc fun z' b m e ne => by rw [← e]; exact sz2 b hi ne
    · exact so2b h ha hc fun b m => sz2 b hi (by rw [hc]; exact fun e => by cases e)
  · rcases hc : x.z.c3 with _ | ⟨ep, nx, sn, fl, tm, o'⟩
    · exact so3i h ha hc fun z' b m e ne => by rw [← e]; exact sz3 b hi ne
    · exact so3b h ha hc fun b m => sz3 b hi (by rw [hc]; exact fun e => by cases e)
end
theorem as0_ok {R : Int} {N : Nat} (r1 : 1 ≤ R) (r2 : R ≤ 8) (v : Nat → Value) : AInv R N ⟨0, wd0 R v⟩ :=
  ⟨wd0_ok r1 r2 v, Nat.zero_le _, Nat.zero_le _, ⟨fun _ e => (by cases e), fun _ e => (by cases e), fun _ _ e => (by cases e)⟩⟩
set_option maxHeartbeats 8000000 in
theorem smallAlone_fn (r : Int) (N cap : Nat) (o : Nat → Int × Int) (q : Int) : Gives Tryz.prog 3 [.int .i64 r, .slice 0 0 N cap, .int .i64 q] [.obj (.rows N 2 (actR o)), pinE RTV] (Is .tt [.obj (.rows N 2 (actR o)), pinE RTV]) := by
  have hX := hXMa
  obtain ⟨c1, c2⟩ := cAnd7 r
  refine gives_x hX (fn := Tryz.f3) rfl rfl rfl rfl fun ρ w => ?_
  refine sxb hX [.l] [] 4000 rfl (by first | exact trivial | simp [conjP, getH, HE.so]) ?_
  refine ss_raw hX 8 2 rfl rfl fun v0 => ?_
  refine ss_raw hX 8 3 rfl rfl fun v1 => ?_
  refine ss_raw hX 9 2 rfl rfl fun v2 => ?_
  refine ss_raw hX 9 3 rfl rfl fun v3 => ?_
  refine ss_raw hX 10 2 rfl rfl fun v4 => ?_
  refine ss_raw hX 10 3 rfl rfl fun v5 => ?_
  refine ss_raw hX 11 2 rfl rfl fun v6 => ?_
  refine ss_raw hX 11 3 rfl rfl fun v7 => ?_
  refine ss_sub hX (T' := alT N cap q ⟨0, wd0 (cAnd 7 r) (vv v0 v1 v2 v3 v4 v5 v6 v7)⟩) (H' := alH N o (cAnd 7 r) ⟨0, wd0 (cAnd 7 r) (vv v0 v1 v2 v3 v4 v5 v6 v7)⟩) [0, 1, 2, 3, 4, 5, 6, 7, 8, 9, 10, 11, 60, 61, 62, 63, 64, 65, 66, 67] rfl rfl rfl rfl ?tt ?hh (by (repeat' (first | exact rfl | exact trivial | exact sim_refl _ | refine And.intro ?_ ?_))) ?ok ?_
  case tt => (repeat' (first | exact rfl | exact trivial | exact sim_refl _ | refine And.intro ?_ ?_)); done
  case hh =>
    have hl := bgW_len (cAnd 7 r)
    have hl' := hl.symm
    (((repeat' (first | exact rfl | exact trivial | exact sim_refl _ | exact simO_refl _ | exact subE_same rfl ren_scE | exact subE_same rfl ren_wlE | exact subE_same rfl ren_rlE | exact subE_same rfl ren_bwE | exact subE_wrE rfl rfl | exact subE_rdE rfl rfl | exact sim_wrP rfl | exact sim_rdP rfl | exact sim_bsV rfl | assumption | refine And.intro ?_ ?_)); done))
  case ok => (((repeat' (first | exact rfl | exact trivial | exact okE_scE | exact okE_wlE | exact okE_rlE | exact okE_bwE | exact okE_wrE rfl | exact okE_rdE rfl | exact okP_wrP (i := 13) rfl | exact okP_wrP (i := 15) rfl | exact okP_rdP (i := 17) rfl | exact okP_rdP (i := 19) rfl | exact okP_bsV rfl | refine And.intro ?_ ?_)); done))
  refine ss_loop hX (alT N cap q) (alH N o (cAnd 7 r)) (AInv (cAnd 7 r) N) (fun x => 100 - x.i) _ (as0_ok c1 c2 _) ?_
  intro x hx I back
  by_cases hlt : x.i < N ∧ x.i < 100
  · obtain ⟨p, hp⟩ := atA (q := q) (cap := cap) (o := o) (ρ := ρ) (w := w) (I := I) hx hlt.1 hlt.2 (fun p x' hx' hi' cs T H hsub => ss_sw (hXTu p) (sw_ss hX (back x' hx' (by show 100 - x'.i < 100 - x.i; omega) [] T H hsub)))
    refine sxb hX [.r 6] [] 100 rfl trivial ?_
    exact ss_sw hX (sw_ss (hXTu p) (cs := []) hp)
  · have hn : (x.i : Int) < (N : Int) → ¬ (x.i : Int) < 100 := fun q q2 => hlt ⟨by omega, by omega⟩
    obtain ⟨p, hp⟩ := solo (bb := true) (o := o) (q := q) (ρ := ρ) (w := w) hx
    have hz : SS hXMa (At ρ w) (Is .tt [.obj (.rows N 2 (actR o)), pinE RTV]) ⟨[], [], Tryz.f3, Tryz.f3.ntmps, [.obj (.rows N 2 (actR o)), pinE RTV], contF Tryz.f3 17 [], alT2 q, alH2 true N o (cAnd 7 r) x.z⟩ := ss_sw hX (sw_ss (hXTq p) (cs := []) hp)
    dsimp only [alT, alH, wdH]
    refine sxb hX [.r 17] [] 4000 rfl (by (simp [-List.getD_eq_getElem?_getD, -List.length_eq_zero_iff, conjP] <;> (first | omega | ((repeat' (refine And.intro ?_ ?_)) <;> (first | omega | exact decide_eq_false (by omega) | exact decide_eq_true (by omega)))))) ?_
    refine ss_pb hX [.r 17] [] 4000 rfl (fun hb0 => ?_) (fun hb0 => ?_)
    · try simp [-List.getD_eq_getElem?_getD, -List.length_eq_zero_iff] at hb0
      refine sxb hX [.r 17] [.T] 4000 rfl (by (simp [-List.getD_eq_getElem?_getD, -List.length_eq_zero_iff, conjP, addOP, hb0] <;> (first | omega | ((repeat' (refine And.intro ?_ ?_)) <;> (first | omega | exact decide_eq_false (by omega) | exact decide_eq_true (by omega)))))) ?_
      refine sxb hX [.r 17] [.F] 4000 rfl (by (simp [-List.getD_eq_getElem?_getD, -List.length_eq_zero_iff, conjP, addOP, hn, hb0] <;> (first | omega | ((repeat' (refine And.intro ?_ ?_)) <;> (first | omega | exact decide_eq_false (by omega) | exact decide_eq_true (by omega)))))) ?_
      (refine ss_sub hX (T' := alT2 q) (H' := alH2 true N o (cAnd 7 r) x.z) [0, 1, 2, 3, 4, 5, 6, 7, 8, 9, 10, 11, 12, 13, 14, 15, 16, 17, 18, 19] rfl rfl rfl rfl ?tt ?hh (by (repeat' (first | exact rfl | exact trivial | exact sim_refl _ | refine And.intro ?_ ?_))) ?ok hz; (case tt => (repeat' (first | exact rfl | exact trivial | exact sim_refl _ | refine And.intro ?_ ?_)); done); (case hh => (((repeat' (first | exact rfl | exact trivial | exact sim_refl _ | exact simO_refl _ | exact subE_same rfl ren_scE | exact subE_same rfl ren_wlE | exact subE_same rfl ren_rlE | exact subE_same rfl ren_bwE | exact subE_wrE rfl rfl | exact subE_rdE rfl rfl | exact sim_wrP rfl | exact sim_rdP rfl | exact sim_bsV rfl | assumption | refine And.intro ?_ ?_)); done))); (case ok => (((repeat' (first | exact rfl | exact trivial | exact okE_scE | exact okE_wlE | exact okE_rlE | exact okE_bwE | exact okE_wrE rfl | exact okE_rdE rfl | exact okP_wrP (i := 13) rfl | exact okP_wrP (i := 15) rfl | exact okP_rdP (i := 17) rfl | exact okP_rdP (i := 19) rfl | exact okP_bsV rfl | refine And.intro ?_ ?_)); done))))
    · try simp [-List.getD_eq_getElem?_getD, -List.length_eq_zero_iff] at hb0
      refine sxb hX [.r 17] [.F] 4000 rfl (by (simp [-List.getD_eq_getElem?_getD, -List.length_eq_zero_iff, conjP, addOP, hb0] <;> (first | omega | ((repeat' (refine And.intro ?_ ?_)) <;> (first | omega | exact decide_eq_false (by omega) | exact decide_eq_true (by omega)))))) ?_
      (refine ss_sub hX (T' := alT2 q) (H' := alH2 true N o (cAnd 7 r) x.z) [0, 1, 2, 3, 4, 5, 6, 7, 8, 9, 10, 11, 12, 13, 14, 15, 16, 17, 18, 19] rfl rfl rfl rfl ?tt ?hh (by (repeat' (first | exact rfl | exact trivial | exact sim_refl _ | refine And.intro ?_ ?_))) ?ok hz; (case tt => (repeat' (first | exact rfl | exact trivial | exact sim_refl _ | refine And.intro ?_ ?_)); done); (case hh => (((repeat' (first | exact rfl | exact trivial | exact sim_refl _ | exact simO_refl _ | exact subE_same rfl ren_scE | exact subE_same rfl ren_wlE | exact subE_same rfl ren_rlE | exact subE_same rfl ren_bwE | exact subE_wrE rfl rfl | exact subE_rdE rfl rfl | exact sim_wrP rfl | exact sim_rdP rfl | exact sim_bsV rfl | assumption | refine And.intro ?_ ?_)); done))); (case ok => (((repeat' (first | exact rfl | exact trivial | exact okE_scE | exact okE_wlE | exact okE_rlE | exact okE_bwE | exact okE_wrE rfl | exact okE_rdE rfl | exact okP_wrP (i := 13) rfl | exact okP_wrP (i := 15) rfl | exact okP_rdP (i := 17) rfl | exact okP_rdP (i := 19) rfl | exact okP_bsV rfl | refine And.intro ?_ ?_)); done))))
set_option maxHeartbeats 8000000 in
theorem smallAlone_nil (r : Int) (a : Option Addr) (q : Int) : Gives Tryz.prog 3 [.int .i64 r, .raw (.slice a 0 0), .int .i64 q] [pinE RTV] (Is .tt [pinE RTV]) := by
  refine abs_gives1 (fun _ _ => rfl) (fun _ _ => rfl) (fun _ _ => rfl) (fun _ _ => rfl) ?_
  have hX := hXMa
  obtain ⟨c1, c2⟩ := cAnd7 r
  have hl := bgW_len (cAnd 7 r)
  have hl' := hl.symm
  refine gives_x hX (fn := Tryz.f3) rfl rfl rfl rfl fun ρ w => ?_
  refine sxb hX [.l] [] 4000 rfl (by first | exact trivial | simp [conjP, getH, HE.so]) ?_
  refine ss_raw hX 8 2 rfl rfl fun v0 => ?_
  refine ss_raw hX 8 3 rfl rfl fun v1 => ?_
  refine ss_raw hX 9 2 rfl rfl fun v2 => ?_
  refine ss_raw hX 9 3 rfl rfl fun v3 => ?_
  refine ss_raw hX 10 2 rfl rfl fun v4 => ?_
  refine ss_raw hX 10 3 rfl rfl fun v5 => ?_
  refine ss_raw hX 11 2 rfl rfl fun v6 => ?_
  refine ss_raw hX 11 3 rfl rfl fun v7 => ?_
  obtain ⟨p, hp⟩ := solo (bb := false) (N := 0) (o := fun _ => (0, 0)) (q := q) (ρ := ρ) (w := w) (as0_ok (N := 0) c1 c2 (vv v0 v1 v2 v3 v4 v5 v6 v7))
  have hz : SS hXMa (At ρ w) (Is .tt [.absent, pinE RTV]) ⟨[], [], Tryz.f3, Tryz.f3.ntmps, [.absent, pinE RTV], contF Tryz.f3 17 [], alT2 q, alH2 false 0 (fun _ => (0, 0)) (cAnd 7 r) (wd0 (cAnd 7 r) (vv v0 v1 v2 v3 v4 v5 v6 v7))⟩ := ss_sw hX (sw_ss (hXTq p) (cs := []) hp)
  refine sxb hX [.r 17] [] 4000 rfl (by (simp [-List.getD_eq_getElem?_getD, -List.length_eq_zero_iff, conjP] <;> (first | omega | ((repeat' (refine And.intro ?_ ?_)) <;> (first | omega | exact decide_eq_false (by omega) | exact decide_eq_true (by omega)))))) ?_
  refine sxb hX [.r 17] [.F] 4000 rfl (by (simp [-List.getD_eq_getElem?_getD, -List.length_eq_zero_iff, conjP, addOP] <;> (first | omega | ((repeat' (refine And.intro ?_ ?_)) <;> (first | omega | exact decide_eq_false (by omega) | exact decide_eq_true (by omega)))))) ?_
  (refine ss_sub hX (T' := alT2 q) (H' := alH2 false 0 (fun _ => (0, 0)) (cAnd 7 r) (wd0 (cAnd 7 r) (vv v0 v1 v2 v3 v4 v5 v6 v7))) [0, 1, 2, 3, 4, 5, 6, 7, 8, 9, 10, 11, 60, 61, 62, 63, 64, 65, 66, 67] rfl rfl rfl rfl ?tt ?hh (by (repeat' (first | exact rfl | exact trivial | exact sim_refl _ | refine And.intro ?_ ?_))) ?ok hz; (case tt => (repeat' (first | exact rfl | exact trivial | exact sim_refl _ | refine And.intro ?_ ?_)); done); (case hh => (((repeat' (first | exact rfl | exact trivial | exact sim_refl _ | exact simO_refl _ | exact subE_same rfl ren_scE | exact subE_same rfl ren_wlE | exact subE_same rfl ren_rlE | exact subE_same rfl ren_bwE | exact subE_wrE rfl rfl | exact subE_rdE rfl rfl | exact sim_wrP rfl | exact sim_rdP rfl | exact sim_bsV rfl | assumption | refine And.intro ?_ ?_)); done))); (case ok => (((repeat' (first | exact rfl | exact trivial | exact okE_scE | exact okE_wlE | exact okE_rlE | exact okE_bwE | exact okE_wrE rfl | exact okE_rdE rfl | exact okP_wrP (i := 13) rfl | exact okP_wrP (i := 15) rfl | exact okP_rdP (i := 17) rfl | exact okP_rdP (i := 19) rfl | exact okP_bsV rfl | refine And.intro ?_ ?_)); done))))
end Go.Proofs.YtmghcelohnlceaaGreatDoor
namespace Go.Proofs.YtmghcelohnlceaaGreatDoor.smallAlone
open Go Go.Hx
abbrev ks28 : List (Option IntKind) := [some .i64, some .i64]
theorem row_of (l : List SV) (h : okK ks28 l) : ∃ o : Int × Int, l = actR (fun _ => o) 0 := by
  rcases l with _ | ⟨a, _ | ⟨b, _ | ⟨c, r⟩⟩⟩ <;> simp only [okK, and_false] at h
  obtain ⟨⟨n1, rfl, _⟩, ⟨n2, rfl, _⟩, _⟩ := h
  exact ⟨(n1, n2), rfl⟩
theorem rows_of (o : Nat → List SV) (h : ∀ i, okK ks28 (o i)) : ∃ q : Nat → Int × Int, o = actR q :=
  ⟨fun i => Classical.choose (row_of (o i) (h i)), funext fun i => Classical.choose_spec (row_of (o i) (h i))⟩
theorem walk_nil (a : Option Addr) (k : Int) (_ : (Lit.int .i64 k).wf = true) (m : Int) (_ : (Lit.int .i64 m).wf = true) : ∃ L, Gives Tryz.prog 3 [.int .i64 k, .raw (.slice a 0 0), .int .i64 m] [pinE RTV] (Is .tt L) := ⟨_, smallAlone_nil k a m⟩
theorem walk (k : Int) (_ : (Lit.int .i64 k).wf = true) (m : Int) (_ : (Lit.int .i64 m).wf = true) (o : Nat → List SV) (h : ∀ i, okK ks28 (o i)) (len cap : Nat) (_ : len ≤ maxLen) : ∃ L, Gives Tryz.prog 3 [.int .i64 k, .slice 0 0 len cap, .int .i64 m] [.obj (.rows len 2 o), pinE RTV] (Is .tt L) := by
  obtain ⟨q, rfl⟩ := rows_of o h
  exact ⟨_, smallAlone_fn k len cap q m⟩
end Go.Proofs.YtmghcelohnlceaaGreatDoor.smallAlone
