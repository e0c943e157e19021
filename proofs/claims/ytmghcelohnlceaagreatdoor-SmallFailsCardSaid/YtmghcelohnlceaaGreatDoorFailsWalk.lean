/- SmallFails: an attempt to read fails only if the control word was changed since it began, or since the one ahead failed. -/
import Derived.Test.YtmghcelohnlceaaGreatDoorFailsA
import Derived.Test.YtmghcelohnlceaaGreatDoorFailsB
import Derived.Test.YtmghcelohnlceaaGreatDoorFailsC
import Derived.Test.YtmghcelohnlceaaGreatDoorFailsD
import Derived.Test.YtmghcelohnlceaaGreatDoorAwake
import Derived.Test.YtmghcelohnlceaaGreatDoorMakeWords
namespace Go.Proofs.YtmghcelohnlceaaGreatDoor
open Go Go.Hx
set_option maxRecDepth 8000
section
variable {R : Int} {N cap : Nat} {o : Nat → Int × Int} {x : FS} {ρ : Nat → Nat × Nat} {w : World} {I : Act → World → Prop}

theorem turn0 (h : FInv R N x) (hin : x.i < N) (hi : x.i < 150) (ha : a3 (o x.i).1 = 0) (hb : bkB (o x.i).1 (o x.i).2 (hdO x.z.c0) (hdO x.z.c1) = false) (J : ∀ p, FJ0 p R N cap o x ρ w I) : ∃ p, FG0 p R N cap o x ρ w I := by
  rcases hc : x.z.c0 with _ | ⟨ep, nx, sn, fl, tm, ii, hd, l⟩
  · obtain ⟨q1, q2, q3⟩ := w_nx1 (R := R) (W := x.z.W) (st := x.z.st) (s := ⟨epW (x.z.W.getD 7 0), 1, 0, 0, 0, 0, false, List.replicate (1 + a3 (o x.i).2).toNat (x.z.n + 1)⟩) rfl
    by_cases e0 : (wStep R ⟨epW (x.z.W.getD 7 0), 1, 0, 0, 0, 0, false, List.replicate (1 + a3 (o x.i).2).toNat (x.z.n + 1)⟩ x.z.W x.z.st).k = 0
    · exact wt0iA h hin hi ha hb hc rfl e0 q1 q2 J
    · exact wt0iD h hin hi ha hb hc rfl (by omega) q1 q2 J
  · have ok : WOk R ⟨ep, nx, sn, fl, tm, ii, hd, l⟩ := by have q := h.b.o0; rw [hc] at q; exact q
    have aft := wAft (st := x.z.st) ok h.b.hw
    have k2 := aft.k2
    by_cases e0 : (wStep R ⟨ep, nx, sn, fl, tm, ii, hd, l⟩ x.z.W x.z.st).k = 0
    · by_cases e1 : (wStep R ⟨ep, nx, sn, fl, tm, ii, hd, l⟩ x.z.W x.z.st).wd = 7
      · rcases e2 : (wStep R ⟨ep, nx, sn, fl, tm, ii, hd, l⟩ x.z.W x.z.st).ch with _ | _
        · exact wt0A h hin hi ha hb hc rfl e0 e1 e2 J
        · exact wt0B h hin hi ha hb hc rfl e0 e1 e2 J
      · exact wt0C h hin hi ha hb hc rfl e0 e1 J
    · by_cases e3 : (wStep R ⟨ep, nx, sn, fl, tm, ii, hd, l⟩ x.z.W x.z.st).k = 1
      · exact wt0D h hin hi ha hb hc rfl e3 (aft.er e3).1 (aft.er e3).2 J
      · have e4 : (wStep R ⟨ep, nx, sn, fl, tm, ii, hd, l⟩ x.z.W x.z.st).k = 2 := by omega
        exact wt0E h hin hi ha hb hc rfl e4 (aft.fin e4).1 (aft.fin e4).2 J
theorem turn1 (h : FInv R N x) (hin : x.i < N) (hi : x.i < 150) (ha : a3 (o x.i).1 = 1) (hb : bkB (o x.i).1 (o x.i).2 (hdO x.z.c0) (hdO x.z.c1) = false) (J : ∀ p, FJ0 p R N cap o x ρ w I) : ∃ p, FG0 p R N cap o x ρ w I := by
  rcases hc : x.z.c1 with _ | ⟨ep, nx, sn, fl, tm, ii, hd, l⟩
  · obtain ⟨q1, q2, q3⟩ := w_nx1 (R := R) (W := x.z.W) (st := x.z.st) (s := ⟨epW (x.z.W.getD 7 0), 1, 0, 0, 0, 0, false, List.replicate (1 + a3 (o x.i).2).toNat (x.z.n + 1)⟩) rfl
    by_cases e0 : (wStep R ⟨epW (x.z.W.getD 7 0), 1, 0, 0, 0, 0, false, List.replicate (1 + a3 (o x.i).2).toNat (x.z.n + 1)⟩ x.z.W x.z.st).k = 0
    · exact wt1iA h hin hi ha hb hc rfl e0 q1 q2 J
    · exact wt1iD h hin hi ha hb hc rfl (by omega) q1 q2 J
  · have ok : WOk R ⟨ep, nx, sn, fl, tm, ii, hd, l⟩ := by have q := h.b.o1; rw [hc] at q; exact q
    have aft := wAft (st := x.z.st) ok h.b.hw
    have k2 := aft.k2
    by_cases e0 : (wStep R ⟨ep, nx, sn, fl, tm, ii, hd, l⟩ x.z.W x.z.st).k = 0
    · by_cases e1 : (wStep R ⟨ep, nx, sn, fl, tm, ii, hd, l⟩ x.z.W x.z.st).wd = 7
      · rcases e2 : (wStep R ⟨ep, nx, sn, fl, tm, ii, hd, l⟩ x.z.W x.z.st).ch with _ | _
        · exact wt1A h hin hi ha hb hc rfl e0 e1 e2 J
        · exact wt1B h hin hi ha hb hc rfl e0 e1 e2 J
      · exact wt1C h hin hi ha hb hc rfl e0 e1 J
    · by_cases e3 : (wStep R ⟨ep, nx, sn, fl, tm, ii, hd, l⟩ x.z.W x.z.st).k = 1
      · exact wt1D h hin hi ha hb hc rfl e3 (aft.er e3).1 (aft.er e3).2 J
      · have e4 : (wStep R ⟨ep, nx, sn, fl, tm, ii, hd, l⟩ x.z.W x.z.st).k = 2 := by omega
        exact wt1E h hin hi ha hb hc rfl e4 (aft.fin e4).1 (aft.fin e4).2 J
theorem turn2 (h : FInv R N x) (hin : x.i < N) (hi : x.i < 150) (ha : a3 (o x.i).1 = 2) (hb : bkB (o x.i).1 (o x.i).2 (hdO x.z.c0) (hdO x.z.c1) = false) (J : ∀ p, FJ0 p R N cap o x ρ w I) : ∃ p, FG0 p R N cap o x ρ w I := by
  rcases hc : x.z.c2 with _ | ⟨ep, nx, sn, fl, tm, o'⟩
  · rcases rk1 (R := R) (W := x.z.W) (st := x.z.st) (s := ⟨epW (x.z.W.getD 7 0), 1, 0, 0, 0, none⟩) rfl with e | e
    · exact rt2i0 h hin hi ha hb hc rfl e J
    · exact rt2i1 h hin hi ha hb hc rfl e J
  · have ok : ROk R ⟨ep, nx, sn, fl, tm, o'⟩ := by have q := h.b.o2; rw [hc] at q; exact q
    rcases o' with _ | l
    · rcases (show nx = 1 ∨ nx = 3 ∨ nx = 4 from ok.nxc) with g | g | g
      · rcases rk1 (R := R) (W := x.z.W) (st := x.z.st) (s := ⟨ep, nx, sn, fl, tm, none⟩) g with e | e
        · exact rt2n0 h hin hi ha hb hc rfl e J
        · exact rt2n1 h hin hi ha hb hc rfl e J
      · exact rt2n3 h hin hi ha hb hc rfl (rk3 g) J
      · exact absurd (show (0 : Nat) = 4 from ok.w4 g) (by decide)
    · rcases (show nx = 1 ∨ nx = 3 ∨ nx = 4 from ok.nxc) with g | g | g
      · rcases rk1 (R := R) (W := x.z.W) (st := x.z.st) (s := ⟨ep, nx, sn, fl, tm, some l⟩) g with e | e
        · exact rt2s0 h hin hi ha hb hc rfl e J
        · exact rt2s1 h hin hi ha hb hc rfl e J
      · exact rt2s3 h hin hi ha hb hc rfl (rk3 g) J
      · rcases rk4 (R := R) (W := x.z.W) (st := x.z.st) (s := ⟨ep, nx, sn, fl, tm, some l⟩) g with e | e | e
        · exact rt2s2 h hin hi ha hb hc rfl e J
        · exact rt2s4 h hin hi ha hb hc rfl e J
        · exact rt2s5 h hin hi ha hb hc rfl e J
theorem turn3 (h : FInv R N x) (hin : x.i < N) (hi : x.i < 150) (ha : a3 (o x.i).1 = 3) (hb : bkB (o x.i).1 (o x.i).2 (hdO x.z.c0) (hdO x.z.c1) = false) (J : ∀ p, FJ0 p R N cap o x ρ w I) : ∃ p, FG0 p R N cap o x ρ w I := by
  rcases hc : x.z.c3 with _ | ⟨ep, nx, sn, fl, tm, o'⟩
  · rcases rk1 (R := R) (W := x.z.W) (st := x.z.st) (s := ⟨epW (x.z.W.getD 7 0), 1, 0, 0, 0, none⟩) rfl with e | e
    · exact rt3i0 h hin hi ha hb hc rfl e J
    · exact rt3i1 h hin hi ha hb hc rfl e J
  · have ok : ROk R ⟨ep, nx, sn, fl, tm, o'⟩ := by have q := h.b.o3; rw [hc] at q; exact q
    rcases o' with _ | l
    · rcases (show nx = 1 ∨ nx = 3 ∨ nx = 4 from ok.nxc) with g | g | g
      · rcases rk1 (R := R) (W := x.z.W) (st := x.z.st) (s := ⟨ep, nx, sn, fl, tm, none⟩) g with e | e
        · exact rt3n0 h hin hi ha hb hc rfl e J
        · exact rt3n1 h hin hi ha hb hc rfl e J
      · exact rt3n3 h hin hi ha hb hc rfl (rk3 g) J
      · exact absurd (show (0 : Nat) = 4 from ok.w4 g) (by decide)
    · rcases (show nx = 1 ∨ nx = 3 ∨ nx = 4 from ok.nxc) with g | g | g
      · rcases rk1 (R := R) (W := x.z.W) (st := x.z.st) (s := ⟨ep, nx, sn, fl, tm, some l⟩) g with e | e
        · exact rt3s0 h hin hi ha hb hc rfl e J
        · exact rt3s1 h hin hi ha hb hc rfl e J
      · exact rt3s3 h hin hi ha hb hc rfl (rk3 g) J
      · rcases rk4 (R := R) (W := x.z.W) (st := x.z.st) (s := ⟨ep, nx, sn, fl, tm, some l⟩) g with e | e | e
        · exact rt3s2 h hin hi ha hb hc rfl e J
        · exact rt3s4 h hin hi ha hb hc rfl e J
        · exact rt3s5 h hin hi ha hb hc rfl e J
set_option maxHeartbeats 4000000 in
theorem turnB (h : FInv R N x) (hin : x.i < N) (hi : x.i < 150) (hb : bkB (o x.i).1 (o x.i).2 (hdO x.z.c0) (hdO x.z.c1) = true) (J : ∀ p, FJ0 p R N cap o x ρ w I) : ∃ p, FG0 p R N cap o x ρ w I := by
  obtain ⟨i, ⟨W, st, kd, wd, vl, ch, stb, kdb, wdb, vlb, chb, f, n, c0, c1, c2, c3, p0, q0, p1, q1, p2, q2, p3, q3, d0, d1, d2, d3⟩, ch', f0, f1, f2, f3⟩ := x
  dsimp only at hin hi hb
  have b := h.b
  have hin1 : (i : Int) < (N : Int) := by omega
  have hi1 : (i : Int) < 150 := by omega
  have ewi : IntKind.i64.wrap ((i : Int) + 1) = ((i + 1 : Nat) : Int) := by rw [wi64 (by omega) (by omega)]; omega
  have hc0 : 0 ≤ ch' := h.c0
  have hc1 : ch' ≤ (i : Int) := h.c1
  have ewc : IntKind.i64.wrap (ch' + 1) = ch' + 1 := wi64 (by omega) (by omega)
  have r1 := b.r1
  have r2 := b.r2
  have hl : W.length = 21 := b.hl
  have w0 : 0 ≤ W.getD 7 0 := (b.hw 7).1
  have w1 : W.getD 7 0 < 18446744073709551616 := (b.hw 7).2
  have s0 : 0 ≤ st := b.s0
  have s1 : st < 1000000 := by have h1 : st ≤ 100 + 2 * (i : Int) := b.s1; omega
  have t0 : 0 ≤ stb := b.t0
  have t1 : stb < 1000000 := by have h1 : stb ≤ 100 + 2 * (i : Int) := b.t1; omega
  have hLn : (((W.set 7 (goneW (W.getD 7 0))).set 7 (bornW (goneW (W.getD 7 0))))).length = 21 := by simp only [List.length_set]; exact hl
  have hWn : ∀ j, 0 ≤ (((W.set 7 (goneW (W.getD 7 0))).set 7 (bornW (goneW (W.getD 7 0))))).getD j 0 ∧ (((W.set 7 (goneW (W.getD 7 0))).set 7 (bornW (goneW (W.getD 7 0))))).getD j 0 < 18446744073709551616 := rg_set (rg_set b.hw gone_r.1 gone_r.2) (born_r gone_r.1).1 (born_r gone_r.1).2
  refine ⟨⟨f, c0, c1, true, 0, false, 0, w00, r00⟩, ?_⟩
  have hX := hXTu ⟨f, c0, c1, true, 0, false, 0, w00, r00⟩
  dsimp only [FG0, fsT, fsH, wdH]
  refine sx hX [] 4000 rfl (by (simp [-List.getD_eq_getElem?_getD, -List.length_eq_zero_iff, conjP] <;> (first | omega | ((repeat' (refine And.intro ?_ ?_)) <;> (first | omega | exact decide_eq_false (by omega) | exact decide_eq_true (by omega)))))) ?_
  refine sx hX [.T] 4000 rfl (by (simp [-List.getD_eq_getElem?_getD, -List.length_eq_zero_iff, conjP, addOP, hin1] <;> (first | omega | ((repeat' (refine And.intro ?_ ?_)) <;> (first | omega | exact decide_eq_false (by omega) | exact decide_eq_true (by omega)))))) ?_
  refine sx hX [.T] 4000 rfl (by (simp [-List.getD_eq_getElem?_getD, -List.length_eq_zero_iff, conjP, hin, hin1, hi1, hb, r1, r2, hl, w0, w1, s0, s1, t0, t1, Int.toNat_natCast] <;> (first | omega | ((repeat' (refine And.intro ?_ ?_)) <;> (first | omega | exact decide_eq_false (by omega) | exact decide_eq_true (by omega)))))) ?_
  refine sx hX [.T] 4000 rfl (by (simp [-List.getD_eq_getElem?_getD, -List.length_eq_zero_iff, conjP, addOP] <;> (first | omega | ((repeat' (refine And.intro ?_ ?_)) <;> (first | omega | exact decide_eq_false (by omega) | exact decide_eq_true (by omega)))))) ?_
  (refine J _ ⟨i + 1, ⟨((W.set 7 (goneW (W.getD 7 0))).set 7 (bornW (goneW (W.getD 7 0)))), st + 1 + 1, 2, 7, (bornW (goneW (W.getD 7 0))), true, stb + 1 + 1, 2, 7, (bornW (goneW (W.getD 7 0))), true, f, n, c0, c1, c2, c3, p0, q0, p1, q1, p2, q2, p3, q3, d0, d1, d2, d3⟩, ch' + 1, f0, f1, f2, f3⟩ ?iv rfl _ _ _ (sub_of [0, 1, 2, 3, 4, 5, 6, 7, 8, 9, 10, 11, 12, 13, 14, 15, 16, 17, 18, 19, 20] rfl rfl rfl rfl ?tt ?hh (by (repeat' (first | exact rfl | exact trivial | exact sim_refl _ | refine And.intro ?_ ?_))) ?ok); (case tt => simp only [ewi, ewc]; (repeat' (first | exact rfl | exact trivial | exact sim_refl _ | refine And.intro ?_ ?_)); done); (case hh => (((repeat' (first | exact rfl | exact trivial | exact sim_refl _ | exact simO_refl _ | exact subE_same rfl ren_wlE | exact subE_same rfl ren_rlE | exact subE_same rfl ren_bwE | exact subE_wrE rfl rfl | exact subE_rdE rfl rfl | exact sim_wrP rfl | exact sim_rdP rfl | exact sim_bsV rfl | assumption | refine And.intro ?_ ?_)); done))); (case ok => (((repeat' (first | exact rfl | exact trivial | exact okE_wlE | exact okE_rlE | exact okE_bwE | exact okE_wrE rfl | exact okE_rdE rfl | exact okP_wrP (i := 13) rfl | exact okP_wrP (i := 15) rfl | exact okP_rdP (i := 17) rfl | exact okP_rdP (i := 19) rfl | exact okP_bsV rfl | refine And.intro ?_ ?_)); done))); (case iv => exact FInv.next h (z' := ⟨((W.set 7 (goneW (W.getD 7 0))).set 7 (bornW (goneW (W.getD 7 0)))), st + 1 + 1, 2, 7, (bornW (goneW (W.getD 7 0))), true, stb + 1 + 1, 2, 7, (bornW (goneW (W.getD 7 0))), true, f, n, c0, c1, c2, c3, p0, q0, p1, q1, p2, q2, p3, q3, d0, d1, d2, d3⟩) (BInv.next b (z' := ⟨((W.set 7 (goneW (W.getD 7 0))).set 7 (bornW (goneW (W.getD 7 0)))), st + 1 + 1, 2, 7, (bornW (goneW (W.getD 7 0))), true, stb + 1 + 1, 2, 7, (bornW (goneW (W.getD 7 0))), true, f, n, c0, c1, c2, c3, p0, q0, p1, q1, p2, q2, p3, q3, d0, d1, d2, d3⟩) (by show i + 1 ≤ 10000; omega) hLn hWn (by show st ≤ st + 1 + 1; omega) (by show st + 1 + 1 ≤ st + 2; omega) (by show stb ≤ stb + 1 + 1; omega) (by show stb + 1 + 1 ≤ stb + 2; omega) (by show n ≤ n; omega) (by show n ≤ n + 1; omega) b.o0 b.o1 b.o2 b.o3) (by show i + 1 ≤ N; omega) (by show i + 1 ≤ 150; omega) (.inr rfl) (.inl rfl) (.inl rfl) (.inl rfl) (.inl rfl) (fun q => absurd (show ch' + 1 = ch' from q) (by omega)) (fun q => absurd (show ch' + 1 = ch' from q) (by omega))))
theorem turnA (h : FInv R N x) (hin : x.i < N) (hi : x.i < 150) (J : ∀ p, FJ0 p R N cap o x ρ w I) : ∃ p, FG0 p R N cap o x ρ w I := by
  rcases hb : bkB (o x.i).1 (o x.i).2 (hdO x.z.c0) (hdO x.z.c1) with _ | _
  · rcases a3_cases (o x.i).1 with ha | ha | ha | ha
    · exact turn0 h hin hi ha hb J
    · exact turn1 h hin hi ha hb J
    · exact turn2 h hin hi ha hb J
    · exact turn3 h hin hi ha hb J
  · exact turnB h hin hi hb J
end
def ctMa : Nat → Option Hx.Spec
  | 9 => some (pureS awSS)
  | 10 => some (begunS)
  | _ => none
theorem ctMa_ok : ∀ f s args H ob V L, ctMa f = some s → s args H = some (ob, V, L) → AllP ob → Gives Tryz.prog f args H (Is V L) := by
  intro f s args H ob V L h hs ho
  unfold ctMa at h
  split at h
  · simp at h; subst h; exact pureS_ok ⟨_, hTE⟩ (awSS_ok) hs ho
  · simp at h; subst h; exact begunS_ok hs ho
  · simp at h
noncomputable def XMa : Tabs := tabs tr ft xt (fun _ => none) ctMa 20
theorem hXMa : TOk Tryz.prog (XMa) := ⟨hTE, hFT, ctMa_ok, hXT, fun t ks h => by simp [XMa, tabs] at h, mixed⟩
/-- The world as it is made. -/
def wd0 (R : Int) (v : Nat → Value) : Wd := ⟨bgW R, bgS R, 2, 7, bornW 0, true, bgS R, 2, 7, bornW 0, true, false, 0, none, none, none, none, v 0, v 1, v 2, v 3, v 4, v 5, v 6, v 7, 0, 0, 0, 0⟩
theorem wd0_ok {R : Int} (r1 : 1 ≤ R) (r2 : R ≤ 8) (v : Nat → Value) : BInv R 0 (wd0 R v) := by
  have hr := csR r1 r2
  have hst := mkA_st hr
  refine ⟨r1, r2, by decide, bgW_len R, ?_, ?_, ?_, ?_, ?_, by show (0 : Int) ≤ 0; decide, by show (0 : Int) ≤ 0; decide, trivial, trivial, trivial, trivial⟩
  · show ∀ j, 0 ≤ (bgW R).getD j 0 ∧ (bgW R).getD j 0 < 18446744073709551616
    unfold bgW
    exact rg_set (mkA_bd hr) (born_r (by decide)).1 (born_r (by decide)).2
  · show 0 ≤ bgS R
    unfold bgS; omega
  · show bgS R ≤ 100 + 2 * ((0 : Nat) : Int)
    unfold bgS; omega
  · show 0 ≤ bgS R
    unfold bgS; omega
  · show bgS R ≤ 100 + 2 * ((0 : Nat) : Int)
    unfold bgS; omega
theorem fs0_ok {R : Int} {N : Nat} (r1 : 1 ≤ R) (r2 : R ≤ 8) (v : Nat → Value) : FInv R N ⟨0, wd0 R v, 0, 0, 0, 0, 0⟩ :=
  ⟨wd0_ok r1 r2 v, Nat.zero_le _, Nat.zero_le _, by show (0 : Int) ≤ 0; decide, by show (0 : Int) ≤ 0; decide, by show (0 : Int) ≤ 0; decide, by show (0 : Int) ≤ 0; decide, by show (0 : Int) ≤ 0; decide, by show (0 : Int) ≤ 0; decide, fun _ s hs => (by cases hs), fun _ s hs => (by cases hs)⟩
def vv (a b c d e f g h : Value) : Nat → Value
  | 0 => a
  | 1 => b
  | 2 => c
  | 3 => d
  | 4 => e
  | 5 => f
  | 6 => g
  | _ => h
set_option maxHeartbeats 8000000 in
theorem smallFails_fn (r : Int) (N cap : Nat) (o : Nat → Int × Int) : Gives Tryz.prog 4 [.int .i64 r, .slice 0 0 N cap] [.obj (.rows N 2 (actR o)), pinE RTV] (Is .tt [.obj (.rows N 2 (actR o)), pinE RTV]) := by
  have hX := hXMa
  obtain ⟨c1, c2⟩ := cAnd7 r
  refine gives_x hX (fn := Tryz.f4) rfl rfl rfl rfl fun ρ w => ?_
  refine sxb hX [.l] [] 4000 rfl (by first | exact trivial | simp [conjP, getH, HE.so]) ?_
  refine ss_raw hX 8 2 rfl rfl fun v0 => ?_
  refine ss_raw hX 8 3 rfl rfl fun v1 => ?_
  refine ss_raw hX 9 2 rfl rfl fun v2 => ?_
  refine ss_raw hX 9 3 rfl rfl fun v3 => ?_
  refine ss_raw hX 10 2 rfl rfl fun v4 => ?_
  refine ss_raw hX 10 3 rfl rfl fun v5 => ?_
  refine ss_raw hX 11 2 rfl rfl fun v6 => ?_
  refine ss_raw hX 11 3 rfl rfl fun v7 => ?_
  refine ss_sub hX (T' := fsT N cap ⟨0, wd0 (cAnd 7 r) (vv v0 v1 v2 v3 v4 v5 v6 v7), 0, 0, 0, 0, 0⟩) (H' := fsH N o (cAnd 7 r) ⟨0, wd0 (cAnd 7 r) (vv v0 v1 v2 v3 v4 v5 v6 v7), 0, 0, 0, 0, 0⟩) [0, 1, 2, 3, 4, 5, 6, 7, 8, 9, 10, 11, 60, 61, 62, 63, 64, 65, 66, 67, 12] rfl rfl rfl rfl ?tt ?hh (by (repeat' (first | exact rfl | exact trivial | exact sim_refl _ | refine And.intro ?_ ?_))) ?ok ?_
  case tt => (repeat' (first | exact rfl | exact trivial | exact sim_refl _ | refine And.intro ?_ ?_)); done
  case hh =>
    have hl := bgW_len (cAnd 7 r)
    have hl' := hl.symm
    (((repeat' (first | exact rfl | exact trivial | exact sim_refl _ | exact simO_refl _ | exact subE_same rfl ren_wlE | exact subE_same rfl ren_rlE | exact subE_same rfl ren_bwE | exact subE_wrE rfl rfl | exact subE_rdE rfl rfl | exact sim_wrP rfl | exact sim_rdP rfl | exact sim_bsV rfl | assumption | refine And.intro ?_ ?_)); done))
  case ok => (((repeat' (first | exact rfl | exact trivial | exact okE_wlE | exact okE_rlE | exact okE_bwE | exact okE_wrE rfl | exact okE_rdE rfl | exact okP_wrP (i := 13) rfl | exact okP_wrP (i := 15) rfl | exact okP_rdP (i := 17) rfl | exact okP_rdP (i := 19) rfl | exact okP_bsV rfl | refine And.intro ?_ ?_)); done))
  refine ss_loop hX (fsT N cap) (fsH N o (cAnd 7 r)) (FInv (cAnd 7 r) N) (fun x => 150 - x.i) _ (fs0_ok c1 c2 _) ?_
  intro x hx I back
  by_cases hlt : x.i < N ∧ x.i < 150
  · obtain ⟨p, hp⟩ := turnA (cap := cap) (o := o) (ρ := ρ) (w := w) (I := I) hx hlt.1 hlt.2 (fun p x' hx' hi' cs T H hsub => ss_sw (hXTu p) (sw_ss hX (back x' hx' (by show 150 - x'.i < 150 - x.i; omega) [] T H hsub)))
    refine sxb hX [.r 8] [] 100 rfl trivial ?_
    exact ss_sw hX (sw_ss (hXTu p) (cs := []) hp)
  · have hn : (x.i : Int) < (N : Int) → ¬ (x.i : Int) < 150 := fun q q2 => hlt ⟨by omega, by omega⟩
    dsimp only [fsT, fsH, wdH]
    refine sx hX [] 4000 rfl (by (simp [-List.getD_eq_getElem?_getD, -List.length_eq_zero_iff, conjP] <;> (first | omega | ((repeat' (refine And.intro ?_ ?_)) <;> (first | omega | exact decide_eq_false (by omega) | exact decide_eq_true (by omega)))))) ?_
    refine ss_pb hX [] [] 4000 rfl (fun hb0 => ?_) (fun hb0 => ?_)
    · try simp [-List.getD_eq_getElem?_getD, -List.length_eq_zero_iff] at hb0
      refine sx hX [.T] 4000 rfl (by (simp [-List.getD_eq_getElem?_getD, -List.length_eq_zero_iff, conjP, addOP, hb0] <;> (first | omega | ((repeat' (refine And.intro ?_ ?_)) <;> (first | omega | exact decide_eq_false (by omega) | exact decide_eq_true (by omega)))))) ?_
      refine sx hX [.F] 4000 rfl (by (simp [-List.getD_eq_getElem?_getD, -List.length_eq_zero_iff, conjP, addOP, hn, hb0] <;> (first | omega | ((repeat' (refine And.intro ?_ ?_)) <;> (first | omega | exact decide_eq_false (by omega) | exact decide_eq_true (by omega)))))) ?_
      (exact ss_end hX [0, 1] rfl rfl trivial rfl rfl rfl rfl (by (repeat' (first | exact rfl | exact trivial | exact sim_refl _ | refine And.intro ?_ ?_))) (by (repeat' (first | exact rfl | exact trivial | exact sim_refl _ | refine And.intro ?_ ?_))) (by (repeat' (first | exact rfl | exact trivial | exact sim_refl _ | refine And.intro ?_ ?_))) (by (repeat' (first | exact rfl | exact trivial | exact sim_refl _ | refine And.intro ?_ ?_))))
    · try simp [-List.getD_eq_getElem?_getD, -List.length_eq_zero_iff] at hb0
      refine sx hX [.F] 4000 rfl (by (simp [-List.getD_eq_getElem?_getD, -List.length_eq_zero_iff, conjP, addOP, hb0] <;> (first | omega | ((repeat' (refine And.intro ?_ ?_)) <;> (first | omega | exact decide_eq_false (by omega) | exact decide_eq_true (by omega)))))) ?_
      (exact ss_end hX [0, 1] rfl rfl trivial rfl rfl rfl rfl (by (repeat' (first | exact rfl | exact trivial | exact sim_refl _ | refine And.intro ?_ ?_))) (by (repeat' (first | exact rfl | exact trivial | exact sim_refl _ | refine And.intro ?_ ?_))) (by (repeat' (first | exact rfl | exact trivial | exact sim_refl _ | refine And.intro ?_ ?_))) (by (repeat' (first | exact rfl | exact trivial | exact sim_refl _ | refine And.intro ?_ ?_))))
set_option maxHeartbeats 8000000 in
theorem smallFails_nil (r : Int) (a : Option Addr) : Gives Tryz.prog 4 [.int .i64 r, .raw (.slice a 0 0)] [pinE RTV] (Is .tt [pinE RTV]) := by
  have hX := hXMa
  refine gives_x hX (fn := Tryz.f4) rfl rfl rfl rfl fun ρ w => ?_
  refine sx hX [] 4000 rfl (by (simp [-List.getD_eq_getElem?_getD, -List.length_eq_zero_iff, conjP] <;> (first | omega | ((repeat' (refine And.intro ?_ ?_)) <;> (first | omega | exact decide_eq_false (by omega) | exact decide_eq_true (by omega)))))) ?_
  refine sx hX [.F] 4000 rfl (by (simp [-List.getD_eq_getElem?_getD, -List.length_eq_zero_iff, conjP, addOP] <;> (first | omega | ((repeat' (refine And.intro ?_ ?_)) <;> (first | omega | exact decide_eq_false (by omega) | exact decide_eq_true (by omega)))))) ?_
  (exact ss_end hX [0] rfl rfl trivial rfl rfl rfl rfl (by (repeat' (first | exact rfl | exact trivial | exact sim_refl _ | refine And.intro ?_ ?_))) (by (repeat' (first | exact rfl | exact trivial | exact sim_refl _ | refine And.intro ?_ ?_))) (by (repeat' (first | exact rfl | exact trivial | exact sim_refl _ | refine And.intro ?_ ?_))) (by (repeat' (first | exact rfl | exact trivial | exact sim_refl _ | refine And.intro ?_ ?_))))
end Go.Proofs.YtmghcelohnlceaaGreatDoor
namespace Go.Proofs.YtmghcelohnlceaaGreatDoor.smallFails
open Go Go.Hx
abbrev ks28 : List (Option IntKind) := [some .i64, some .i64]
theorem row_of (l : List SV) (h : okK ks28 l) : ∃ o : Int × Int, l = actR (fun _ => o) 0 := by
  rcases l with _ | ⟨a, _ | ⟨b, _ | ⟨c, r⟩⟩⟩ <;> simp only [okK, and_false] at h
  obtain ⟨⟨n1, rfl, _⟩, ⟨n2, rfl, _⟩, _⟩ := h
  exact ⟨(n1, n2), rfl⟩
theorem rows_of (o : Nat → List SV) (h : ∀ i, okK ks28 (o i)) : ∃ q : Nat → Int × Int, o = actR q :=
  ⟨fun i => Classical.choose (row_of (o i) (h i)), funext fun i => Classical.choose_spec (row_of (o i) (h i))⟩
theorem walk_nil (a : Option Addr) (k : Int) (_ : (Lit.int .i64 k).wf = true) : ∃ L, Gives Tryz.prog 4 [.int .i64 k, .raw (.slice a 0 0)] [pinE RTV] (Is .tt L) := ⟨_, smallFails_nil k a⟩
theorem walk (k : Int) (_ : (Lit.int .i64 k).wf = true) (o : Nat → List SV) (h : ∀ i, okK ks28 (o i)) (len cap : Nat) (_ : len ≤ maxLen) : ∃ L, Gives Tryz.prog 4 [.int .i64 k, .slice 0 0 len cap] [.obj (.rows len 2 o), pinE RTV] (Is .tt L) := by
  obtain ⟨q, rfl⟩ := rows_of o h
  exact ⟨_, smallFails_fn k len cap q⟩
end Go.Proofs.YtmghcelohnlceaaGreatDoor.smallFails
