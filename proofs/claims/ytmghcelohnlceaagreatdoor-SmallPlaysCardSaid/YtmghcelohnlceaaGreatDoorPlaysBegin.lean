/- SmallPlays: the world of a turn. -/
import Derived.Test.YtmghcelohnlceaaGreatDoorPlaysRows
import Derived.Test.YtmghcelohnlceaaGreatDoorTopTwo
import Derived.Test.YtmghcelohnlceaaGreatDoorAloneHold
namespace Go.Proofs.YtmghcelohnlceaaGreatDoor
open Go Go.Hx
set_option maxRecDepth 8000
/-- Which outcomes there are in a turn. -/
structure YP where
  (o0 o1 : Option WS) (p0 p1 : Value) (back : Bool) (i : Nat) (idle : Bool) (q : Nat) (w : WR) (r : RR) (d : DP)
def ctTy (p : YP) : Nat → Option Hx.Spec
  | 11 => some (whoY p.o0 p.o1 p.p0 p.p1 p.back)
  | 12 => some (begY p.i false p.idle)
  | 13 => some (wStG p.q p.w)
  | 14 => some (rStG p.q p.r)
  | 33 => some (dwStS p.d p.q p.w)
  | 34 => some (drStS p.d p.q p.r)
  | 21 => some (arLastS)
  | 24 => some (arStepsS)
  | 15 => some (arWordsS)
  | 35 => some (sameY)
  | 17 => some (top1S)
  | _ => none
theorem ctTy_ok (p : YP) : ∀ f s args H ob V L, ctTy p f = some s → s args H = some (ob, V, L) → AllP ob → Gives Tryz.prog f args H (Is V L) := by
  intro f s args H ob V L h hs ho
  unfold ctTy at h
  split at h
  · simp at h; subst h; exact whoY_ok hs ho
  · simp at h; subst h; exact begY_ok hs ho
  · simp at h; subst h; exact wStG_ok hs ho
  · simp at h; subst h; exact rStG_ok hs ho
  · simp at h; subst h; exact dwStS_ok hs ho
  · simp at h; subst h; exact drStS_ok hs ho
  · simp at h; subst h; exact arLastS_ok hs ho
  · simp at h; subst h; exact arStepsS_ok hs ho
  · simp at h; subst h; exact arWordsS_ok hs ho
  · simp at h; subst h; exact sameY_ok hs ho
  · simp at h; subst h; exact top1S_ok hs ho
  · simp at h
noncomputable def XTy (p : YP) : Tabs := tabs tr ft xt (etA) (ctTy p) 0
theorem hXTy (p : YP) : TOk Tryz.prog (XTy p) := ⟨hTE, hFT, (ctTy_ok p), hXT, etA_ok, mixed⟩
theorem clhY {P : Prop} (h : P := by repeat' (first | exact rfl | exact trivial | exact sim_refl _ | exact simO_refl _ | exact subE_same rfl ren_wlE | exact subE_same rfl ren_rlE | exact subE_same rfl ren_dlE | exact subE_wrE rfl rfl | exact subE_rdE rfl rfl | exact subE_dwE rfl rfl | exact subE_drE rfl rfl | exact sim_wrP rfl | exact sim_rdP rfl | exact sim_dwP rfl | exact sim_drP rfl | assumption | refine And.intro ?_ ?_)) : P := h
theorem clkY {P : Prop} (h : P := by repeat' (first | exact rfl | exact trivial | exact okE_wlE | exact okE_rlE | exact okE_dlE | exact okE_wrE rfl | exact okE_rdE rfl | exact okE_dwE rfl | exact okE_drE rfl | exact okP_wrP (i := 13) rfl | exact okP_wrP (i := 15) rfl | exact okP_rdP (i := 17) rfl | exact okP_rdP (i := 19) rfl | exact okP_dwP (R := 0) (i := 21) rfl | exact okP_dwP (i := 21) rfl | exact okP_dwP (i := 23) rfl | exact okP_drP (i := 25) rfl | exact okP_drP (i := 27) rfl | refine And.intro ?_ ?_)) : P := h
def ypH (e : HE) (R : Int) (z : Wd) (x : List HE) : List HE :=
  e :: pinE RTV :: .obj (xO R 3 5 7 z.n) :: AOx 4 z.W z.st z.kd z.wd z.vl z.ch :: WO z.W :: ROx 6 z.W z.st z.kd z.wd z.vl z.ch :: WO z.W :: .obj (kO 8 9 10 11) ::
    .obj (ycO (wrP z.c0 12) .nilptr (dwP z.c0 20 z.p0) (.raw z.q0) z.d0) :: .obj (ycO (wrP z.c1 14) .nilptr (dwP z.c1 22 z.p1) (.raw z.q1) z.d1) :: .obj (ycO .nilptr (rdP z.c2 16) (.raw z.p2) (drP z.c2 24 z.q2) z.d2) :: .obj (ycO .nilptr (rdP z.c3 18) (.raw z.p3) (drP z.c3 26 z.q3) z.d3) ::
    wrE R z.c0 13 :: wlE z.c0 :: wrE R z.c1 15 :: wlE z.c1 :: rdE R z.c2 17 :: rlE z.c2 :: rdE R z.c3 19 :: rlE z.c3 ::
    dwE R z.c0 21 :: dlE z.c0 :: dwE R z.c1 23 :: dlE z.c1 :: drE R z.c2 25 :: rlE z.c2 :: drE R z.c3 27 :: rlE z.c3 :: x
structure YS where
  (i : Nat) (z : Wd)
def yT (N cap : Nat) (x : YS) : List (Nat × SV) := [(1, .slice 0 0 N cap), (5, .tt), (6, .ptr 2 0), (7, .int .i64 (x.i : Int))]
def ykT (K : Int) (C N cap : Nat) (x : YS) : List (Nat × SV) := [(1, .slice 0 0 N cap), (5, .tt), (6, .ptr 2 0), (7, .int .i64 (x.i : Int)), (8, .int .i64 K), (9, .ptr C 0)]
def yH (N : Nat) (o : Nat → Int × Int) (R : Int) (x : YS) : List HE := ypH (.obj (.rows N 2 (actR o))) R x.z []
structure YInv (R : Int) (N h : Nat) (x : YS) : Prop where
  b : BInv R (2 * x.i + h) x.z
  hn : x.i + h ≤ N
  hi : x.i + h ≤ 150
theorem YInv.facts {R : Int} {N h : Nat} {x : YS} (h' : YInv R N h x) (hin : x.i < N) (hi : x.i < 150) : (x.i : Int) < (N : Int) ∧ (x.i : Int) < 150 ∧ IntKind.i64.wrap ((x.i : Int) + 1) = ((x.i + 1 : Nat) : Int) ∧
    1 ≤ R ∧ R ≤ 8 ∧ x.z.W.length = 21 ∧ 16 ≤ x.z.W.length ∧ 0 ≤ x.z.W.getD 7 0 ∧ x.z.W.getD 7 0 < 18446744073709551616 ∧ 0 ≤ x.z.st ∧ x.z.st < 1000000 ∧ 0 ≤ x.z.n ∧ x.z.n < 1000000 - 1 := by
  have b := h'.b
  have h2 := b.s0
  have h3 := b.s1
  have h4 := b.n1
  have h5 := h'.hi
  exact ⟨by omega, by omega, by rw [wi64 (by omega) (by omega)]; omega, b.r1, b.r2, b.hl, by have := b.hl; omega, (b.hw 7).1, (b.hw 7).2, h2, by omega, b.n0, by omega⟩
theorem BInv.mono {R : Int} {i j : Nat} {z : Wd} (h : BInv R i z) (hij : i ≤ j) (hj : j ≤ 10000) : BInv R j z := by
  have h2 := h.s1
  have h3 := h.t1
  have h4 := h.n1
  exact ⟨h.r1, h.r2, hj, h.hl, h.hw, h.s0, by omega, h.t0, by omega, h.n0, by omega, h.o0, h.o1, h.o2, h.o3⟩
/-- What a step that is no error is told of: none. -/
theorem wC {R : Int} {s : WS} {W : List Int} {st : Int} {r : WR} (hr : wStep R s W st = r) (hk : r.k ≠ 1) : r.c = 0 := by
  subst hr
  unfold wStep at hk ⊢
  repeat' (split at hk)
  all_goals (first | exact absurd rfl hk | (simp_all))
theorem rC {R : Int} {s : RS} {W : List Int} {st : Int} {r : RR} (hr : rStep R s W st = r) (h1 : r.k ≠ 1) (h5 : r.k ≠ 5) : r.c = 0 := by
  subst hr
  unfold rStep at h1 h5 ⊢
  split
  · rename_i g
    rw [if_pos g] at h1
    split
    · rename_i g2
      rw [if_pos g2] at h1
      exact absurd rfl h1
    · rename_i g2
      rw [if_neg g2] at h1
      split
      · rename_i g3
        rw [if_pos g3] at h1
        exact absurd rfl h1
      · rfl
  · rename_i g
    rw [if_neg g] at h5
    split
    · rfl
    · rename_i g2
      rw [if_neg g2] at h5
      split
      · rfl
      · rename_i g3
        rw [if_neg g3] at h5
        split
        · rename_i g4
          rw [if_pos g4] at h5
          exact absurd rfl h5
        · rfl
def dp0 : DP := ⟨0, ⟨0, 0, 0, 0, 0, 0, false, []⟩, ⟨0, 0, 0, 0, 0, none⟩, 0, [], 0, 0, 0, 0, false⟩
end Go.Proofs.YtmghcelohnlceaaGreatDoor

/- SmallPlays: the topic goes, and comes anew; a client begins. -/
namespace Go.Proofs.YtmghcelohnlceaaGreatDoor
open Go Go.Hx
set_option maxRecDepth 8000
section
variable {R : Int} {N cap : Nat} {o : Nat → Int × Int} {x : YS} {ρ : Nat → Nat × Nat} {w : World} {I : Act → World → Prop}
abbrev YJ (p : YP) (R : Int) (N cap : Nat) (o : Nat → Int × Int) (x : YS) (ρ : Nat → Nat × Nat) (w : World) (I : Act → World → Prop) : Prop :=
  ∀ x', YInv R N 0 x' → x'.i = x.i + 1 → ∀ cs T H, Sub (FEnv Tryz.prog (XTy p).TE (hXTy p).te Tryz.f8 Tryz.f8.ntmps [.obj (.rows N 2 (actR o)), pinE RTV] (Is .tt [.obj (.rows N 2 (actR o)), pinE RTV]) ρ w) T H (yT N cap x') (yH N o R x') →
    SS (hXTy p) (At ρ w) (Is .tt [.obj (.rows N 2 (actR o)), pinE RTV]) ⟨cs, [], Tryz.f8, Tryz.f8.ntmps, [.obj (.rows N 2 (actR o)), pinE RTV], downLp (contF Tryz.f8 6 [I]), T, H⟩
abbrev YG (p : YP) (R : Int) (N cap : Nat) (o : Nat → Int × Int) (x : YS) (ρ : Nat → Nat × Nat) (w : World) (I : Act → World → Prop) : Prop :=
  SS (hXTy p) (At ρ w) (Is .tt [.obj (.rows N 2 (actR o)), pinE RTV]) ⟨[], [], Tryz.f8, Tryz.f8.ntmps, [.obj (.rows N 2 (actR o)), pinE RTV], contF Tryz.f8 6 [I], yT N cap x, yH N o R x⟩
/-- Where a client has its turn. -/
abbrev YKw (p : YP) (K : Int) (C : Nat) (R : Int) (N cap : Nat) (o : Nat → Int × Int) (x : YS) (ρ : Nat → Nat × Nat) (w : World) (I : Act → World → Prop) : Prop :=
  SS (hXTy p) (At ρ w) (Is .tt [.obj (.rows N 2 (actR o)), pinE RTV]) ⟨[], [], Tryz.f8, Tryz.f8.ntmps, [.obj (.rows N 2 (actR o)), pinE RTV], contF Tryz.f8 12 [I], ykT K C N cap x, yH N o R x⟩
set_option maxHeartbeats 4000000 in
theorem ybk (h : YInv R N 0 x) (hin : x.i < N) (hi : x.i < 150) (hb : bkB (o x.i).1 (o x.i).2 (hdO x.z.c0) (hdO x.z.c1) = true) (J : ∀ p, YJ p R N cap o x ρ w I) : ∃ p, YG p R N cap o x ρ w I := by
  have F := h.facts hin hi
  obtain ⟨i, ⟨W, st, kd, wd, vl, ch, stb, kdb, wdb, vlb, chb, f, n, c0, c1, c2, c3, p0, q0, p1, q1, p2, q2, p3, q3, d0, d1, d2, d3⟩⟩ := x
  dsimp only at hin hi hb F
  have b := h.b
  obtain ⟨hin1, hi1, ewi, r1, r2, hl, hl16, w0, w1, s0, s1, n0, n1⟩ := F
  have hLn : (((W.set 7 (goneW (W.getD 7 0))).set 7 (bornW (goneW (W.getD 7 0))))).length = 21 := by simp only [List.length_set]; exact hl
  have hWn : ∀ j, 0 ≤ (((W.set 7 (goneW (W.getD 7 0))).set 7 (bornW (goneW (W.getD 7 0))))).getD j 0 ∧ (((W.set 7 (goneW (W.getD 7 0))).set 7 (bornW (goneW (W.getD 7 0))))).getD j 0 < 18446744073709551616 := rg_set (rg_set b.hw gone_r.1 gone_r.2) (born_r gone_r.1).1 (born_r gone_r.1).2
  refine ⟨⟨c0, c1, p0, p1, true, 0, false, 0, w00, r00, dp0⟩, ?_⟩
  have hX := hXTy ⟨c0, c1, p0, p1, true, 0, false, 0, w00, r00, dp0⟩
  dsimp only [YG, yT, yH, ypH]
  refine sx hX [] 4000 rfl (by (simp [-List.getD_eq_getElem?_getD, -List.length_eq_zero_iff, conjP])) ?_
  refine sx hX [.T] 4000 rfl (by (simp [-List.getD_eq_getElem?_getD, -List.length_eq_zero_iff, conjP, addOP, hin1])) ?_
  refine sx hX [.T] 4000 rfl (by (simp [-List.getD_eq_getElem?_getD, -List.length_eq_zero_iff, conjP, hin, hin1, hi1, hb, r1, r2, hl, w0, w1, s0, s1, Int.toNat_natCast])) ?_
  refine sx hX [.T] 4000 rfl (by (simp [-List.getD_eq_getElem?_getD, -List.length_eq_zero_iff, conjP, addOP])) ?_
  (refine J _ ⟨i + 1, ⟨((W.set 7 (goneW (W.getD 7 0))).set 7 (bornW (goneW (W.getD 7 0)))), st + 1 + 1, 2, 7, (bornW (goneW (W.getD 7 0))), true, stb, kdb, wdb, vlb, chb, f, n, c0, c1, c2, c3, p0, q0, p1, q1, p2, q2, p3, q3, d0, d1, d2, d3⟩⟩ ?iv rfl _ _ _ (sub_of [0, 1, 2, 3, 4, 5, 6, 7, 8, 9, 10, 11, 12, 13, 14, 15, 16, 17, 18, 19, 20, 21, 22, 23, 24, 25, 26, 27] rfl rfl rfl rfl ?tt ?hh ?ot ?ok); (case tt => simp only [ewi]; (exact clhY)); (case hh => (exact clhY)); (case ot => (exact clkY)); (case ok => (exact clkY)); (case iv => exact ⟨(BInv.next b (z' := ⟨((W.set 7 (goneW (W.getD 7 0))).set 7 (bornW (goneW (W.getD 7 0)))), st + 1 + 1, 2, 7, (bornW (goneW (W.getD 7 0))), true, stb, kdb, wdb, vlb, chb, f, n, c0, c1, c2, c3, p0, q0, p1, q1, p2, q2, p3, q3, d0, d1, d2, d3⟩) (by show 2 * i + 0 + 1 ≤ 10000; omega) hLn hWn (by show st ≤ st + 1 + 1; omega) (by show st + 1 + 1 ≤ st + 2; omega) (by show stb ≤ stb; omega) (by show stb ≤ stb + 2; omega) (by show n ≤ n; omega) (by show n ≤ n + 1; omega) b.o0 b.o1 b.o2 b.o3).mono (by show 2 * i + 0 + 1 ≤ 2 * (i + 1) + 0; omega) (by show 2 * (i + 1) + 0 ≤ 10000; omega), by show i + 1 + 0 ≤ N; omega, by show i + 1 + 0 ≤ 150; omega⟩))
set_option maxHeartbeats 4000000 in
theorem yg0 (h : YInv R N 0 x) (hin : x.i < N) (hi : x.i < 150) (ha : a3 (o x.i).1 = 0) (hb : bkB (o x.i).1 (o x.i).2 (hdO x.z.c0) (hdO x.z.c1) = false) (hc : x.z.c0 = none)
    (J : ∀ x', YInv R N 1 x' → x'.i = x.i → x'.z.c0 ≠ none → ∃ p, YKw p 0 8 R N cap o x' ρ w I) : ∃ p, YG p R N cap o x ρ w I := by
  have F := h.facts hin hi
  obtain ⟨i, ⟨W, st, kd, wd, vl, ch, stb, kdb, wdb, vlb, chb, f, n, c0, c1, c2, c3, p0, q0, p1, q1, p2, q2, p3, q3, d0, d1, d2, d3⟩⟩ := x
  dsimp only at hin hi ha hb hc F
  subst hc
  have b := h.b
  obtain ⟨hin1, hi1, ewi, r1, r2, hl, hl16, w0, w1, s0, s1, n0, n1⟩ := F
  have n2 : n < 1000000 := by omega
  have hl21 := hl.symm
  have hcm := a3_cases (o i).2
  have hrl : (1 + a3 (o i).2).toNat = (List.replicate (1 + a3 (o i).2).toNat (n + 1)).length := by simp
  have hrr := hrl.symm
  refine ⟨⟨none, c1, p0, p1, false, 0, true, 0, w00, r00, dp0⟩, ?_⟩
  have hX := hXTy ⟨none, c1, p0, p1, false, 0, true, 0, w00, r00, dp0⟩
  dsimp only [YG, yT, yH, ypH]
  refine sxb hX [.r 9] [] 4000 rfl (by first | exact trivial | simp [conjP]) ?_
  refine sxb hX [.r 9] [.T, .T] 4000 rfl (by simp [conjP, hin, hin1, hi1, hb, wrP, wrE, wlE, dwP, dwE]) ?_
  simp only [Int.toNat_natCast, ha]
  refine sxb hX [.r 12] [] 4000 rfl (by (simp [-List.getD_eq_getElem?_getD, -List.length_eq_zero_iff, conjP])) ?_
  refine sxb hX [.r 12] [.F] 4000 rfl (by (simp [-List.getD_eq_getElem?_getD, -List.length_eq_zero_iff, conjP, hin, hin1, r1, r2, hl, w0, w1, n0, n2, wrP, bsV, bwE, Int.toNat_natCast])) ?_
  (obtain ⟨pp, h1⟩ := J ⟨i, ⟨W, st, kd, wd, vl, ch, stb, kdb, wdb, vlb, chb, f, n + 1, some ⟨epW (W.getD 7 0), 1, 0, 0, 0, 0, false, List.replicate (1 + a3 (o i).2).toNat (n + 1)⟩, c1, c2, c3, p0, q0, p1, q1, p2, q2, p3, q3, n + 1, d1, d2, d3⟩⟩ ⟨BInv.nx b b.hl b.hw (wok_new r1 (by omega) (by omega) (by omega) (by omega)) (b.o1) (b.o2) (b.o3) (hi := by show 2 * i + 0 + 1 ≤ 10000; omega), by show i + 1 ≤ N; omega, by show i + 1 ≤ 150; omega⟩ rfl (fun q => by cases q); refine ss_sub hX (T' := ykT 0 8 N cap ⟨i, ⟨W, st, kd, wd, vl, ch, stb, kdb, wdb, vlb, chb, f, n + 1, some ⟨epW (W.getD 7 0), 1, 0, 0, 0, 0, false, List.replicate (1 + a3 (o i).2).toNat (n + 1)⟩, c1, c2, c3, p0, q0, p1, q1, p2, q2, p3, q3, n + 1, d1, d2, d3⟩⟩) (H' := yH N o R ⟨i, ⟨W, st, kd, wd, vl, ch, stb, kdb, wdb, vlb, chb, f, n + 1, some ⟨epW (W.getD 7 0), 1, 0, 0, 0, 0, false, List.replicate (1 + a3 (o i).2).toNat (n + 1)⟩, c1, c2, c3, p0, q0, p1, q1, p2, q2, p3, q3, n + 1, d1, d2, d3⟩⟩) [0, 1, 2, 3, 4, 5, 6, 7, 8, 9, 10, 11, 28, 29, 14, 15, 16, 17, 18, 19, 30, 31, 22, 23, 24, 25, 26, 27] rfl rfl rfl rfl ?tt ?hh ?ot ?ok (ss_sw hX (sw_ss (hXTy pp) (cs := []) h1)); (case tt => (exact clhY)); (case hh => (exact clhY)); (case ot => (exact clkY)); (case ok => (exact clkY)))
set_option maxHeartbeats 4000000 in
theorem yo0 (h : YInv R N 0 x) (hin : x.i < N) (hi : x.i < 150) (ha : a3 (o x.i).1 = 0) (hb : bkB (o x.i).1 (o x.i).2 (hdO x.z.c0) (hdO x.z.c1) = false) {ep nx sn fl tm ii : Int} {hd : Bool} {l : List Int} (hc : x.z.c0 = some ⟨ep, nx, sn, fl, tm, ii, hd, l⟩)
    (J : ∀ x', YInv R N 1 x' → x'.i = x.i → x'.z.c0 ≠ none → ∃ p, YKw p 0 8 R N cap o x' ρ w I) : ∃ p, YG p R N cap o x ρ w I := by
  have F := h.facts hin hi
  obtain ⟨i, ⟨W, st, kd, wd, vl, ch, stb, kdb, wdb, vlb, chb, f, n, c0, c1, c2, c3, p0, q0, p1, q1, p2, q2, p3, q3, d0, d1, d2, d3⟩⟩ := x
  dsimp only at hin hi ha hb hc F
  subst hc
  have b := h.b
  obtain ⟨hin1, hi1, ewi, r1, r2, hl, hl16, w0, w1, s0, s1, n0, n1⟩ := F
  refine ⟨⟨some ⟨ep, nx, sn, fl, tm, ii, hd, l⟩, c1, p0, p1, false, 0, false, 0, w00, r00, dp0⟩, ?_⟩
  have hX := hXTy ⟨some ⟨ep, nx, sn, fl, tm, ii, hd, l⟩, c1, p0, p1, false, 0, false, 0, w00, r00, dp0⟩
  dsimp only [YG, yT, yH, ypH]
  refine sxb hX [.r 9] [] 4000 rfl (by first | exact trivial | simp [conjP]) ?_
  refine sxb hX [.r 9] [.T, .T] 4000 rfl (by simp [conjP, hin, hin1, hi1, hb, wrP, wrE, wlE, dwP, dwE]) ?_
  simp only [Int.toNat_natCast, ha]
  refine sxb hX [.r 12] [] 4000 rfl (by (simp [-List.getD_eq_getElem?_getD, -List.length_eq_zero_iff, conjP])) ?_
  refine sxb hX [.r 12] [.F] 4000 rfl (by (simp [-List.getD_eq_getElem?_getD, -List.length_eq_zero_iff, conjP, getH, HE.so, hin, hin1, wrP, wrE, dwP, dwE])) ?_
  (obtain ⟨pp, h1⟩ := J ⟨i, ⟨W, st, kd, wd, vl, ch, stb, kdb, wdb, vlb, chb, f, n, some ⟨ep, nx, sn, fl, tm, ii, hd, l⟩, c1, c2, c3, p0, q0, p1, q1, p2, q2, p3, q3, d0, d1, d2, d3⟩⟩ ⟨b.mono (by show 2 * i + 0 ≤ 2 * i + 1; omega) (by show 2 * i + 1 ≤ 10000; omega), by show i + 1 ≤ N; omega, by show i + 1 ≤ 150; omega⟩ rfl (fun q => by cases q); refine ss_sub hX (T' := ykT 0 8 N cap ⟨i, ⟨W, st, kd, wd, vl, ch, stb, kdb, wdb, vlb, chb, f, n, some ⟨ep, nx, sn, fl, tm, ii, hd, l⟩, c1, c2, c3, p0, q0, p1, q1, p2, q2, p3, q3, d0, d1, d2, d3⟩⟩) (H' := yH N o R ⟨i, ⟨W, st, kd, wd, vl, ch, stb, kdb, wdb, vlb, chb, f, n, some ⟨ep, nx, sn, fl, tm, ii, hd, l⟩, c1, c2, c3, p0, q0, p1, q1, p2, q2, p3, q3, d0, d1, d2, d3⟩⟩) [0, 1, 2, 3, 4, 5, 6, 7, 8, 9, 10, 11, 12, 13, 14, 15, 16, 17, 18, 19, 20, 21, 22, 23, 24, 25, 26, 27] rfl rfl rfl rfl ?tt ?hh ?ot ?ok (ss_sw hX (sw_ss (hXTy pp) (cs := []) h1)); (case tt => (exact clhY)); (case hh => (exact clhY)); (case ot => (exact clkY)); (case ok => (exact clkY)))
set_option maxHeartbeats 4000000 in
theorem yg1 (h : YInv R N 0 x) (hin : x.i < N) (hi : x.i < 150) (ha : a3 (o x.i).1 = 1) (hb : bkB (o x.i).1 (o x.i).2 (hdO x.z.c0) (hdO x.z.c1) = false) (hc : x.z.c1 = none)
    (J : ∀ x', YInv R N 1 x' → x'.i = x.i → x'.z.c1 ≠ none → ∃ p, YKw p 1 9 R N cap o x' ρ w I) : ∃ p, YG p R N cap o x ρ w I := by
  have F := h.facts hin hi
  obtain ⟨i, ⟨W, st, kd, wd, vl, ch, stb, kdb, wdb, vlb, chb, f, n, c0, c1, c2, c3, p0, q0, p1, q1, p2, q2, p3, q3, d0, d1, d2, d3⟩⟩ := x
  dsimp only at hin hi ha hb hc F
  subst hc
  have b := h.b
  obtain ⟨hin1, hi1, ewi, r1, r2, hl, hl16, w0, w1, s0, s1, n0, n1⟩ := F
  have n2 : n < 1000000 := by omega
  have hl21 := hl.symm
  have hcm := a3_cases (o i).2
  have hrl : (1 + a3 (o i).2).toNat = (List.replicate (1 + a3 (o i).2).toNat (n + 1)).length := by simp
  have hrr := hrl.symm
  refine ⟨⟨c0, none, p0, p1, false, 1, true, 0, w00, r00, dp0⟩, ?_⟩
  have hX := hXTy ⟨c0, none, p0, p1, false, 1, true, 0, w00, r00, dp0⟩
  dsimp only [YG, yT, yH, ypH]
  refine sxb hX [.r 9] [] 4000 rfl (by first | exact trivial | simp [conjP]) ?_
  refine sxb hX [.r 9] [.T, .T] 4000 rfl (by simp [conjP, hin, hin1, hi1, hb, wrP, wrE, wlE, dwP, dwE]) ?_
  simp only [Int.toNat_natCast, ha]
  refine sxb hX [.r 12] [] 4000 rfl (by (simp [-List.getD_eq_getElem?_getD, -List.length_eq_zero_iff, conjP])) ?_
  refine sxb hX [.r 12] [.F] 4000 rfl (by (simp [-List.getD_eq_getElem?_getD, -List.length_eq_zero_iff, conjP, hin, hin1, r1, r2, hl, w0, w1, n0, n2, wrP, bsV, bwE, Int.toNat_natCast])) ?_
  (obtain ⟨pp, h1⟩ := J ⟨i, ⟨W, st, kd, wd, vl, ch, stb, kdb, wdb, vlb, chb, f, n + 1, c0, some ⟨epW (W.getD 7 0), 1, 0, 0, 0, 0, false, List.replicate (1 + a3 (o i).2).toNat (n + 1)⟩, c2, c3, p0, q0, p1, q1, p2, q2, p3, q3, d0, n + 1, d2, d3⟩⟩ ⟨BInv.nx b b.hl b.hw (b.o0) (wok_new r1 (by omega) (by omega) (by omega) (by omega)) (b.o2) (b.o3) (hi := by show 2 * i + 0 + 1 ≤ 10000; omega), by show i + 1 ≤ N; omega, by show i + 1 ≤ 150; omega⟩ rfl (fun q => by cases q); refine ss_sub hX (T' := ykT 1 9 N cap ⟨i, ⟨W, st, kd, wd, vl, ch, stb, kdb, wdb, vlb, chb, f, n + 1, c0, some ⟨epW (W.getD 7 0), 1, 0, 0, 0, 0, false, List.replicate (1 + a3 (o i).2).toNat (n + 1)⟩, c2, c3, p0, q0, p1, q1, p2, q2, p3, q3, d0, n + 1, d2, d3⟩⟩) (H' := yH N o R ⟨i, ⟨W, st, kd, wd, vl, ch, stb, kdb, wdb, vlb, chb, f, n + 1, c0, some ⟨epW (W.getD 7 0), 1, 0, 0, 0, 0, false, List.replicate (1 + a3 (o i).2).toNat (n + 1)⟩, c2, c3, p0, q0, p1, q1, p2, q2, p3, q3, d0, n + 1, d2, d3⟩⟩) [0, 1, 2, 3, 4, 5, 6, 7, 8, 9, 10, 11, 12, 13, 28, 29, 16, 17, 18, 19, 20, 21, 30, 31, 24, 25, 26, 27] rfl rfl rfl rfl ?tt ?hh ?ot ?ok (ss_sw hX (sw_ss (hXTy pp) (cs := []) h1)); (case tt => (exact clhY)); (case hh => (exact clhY)); (case ot => (exact clkY)); (case ok => (exact clkY)))
set_option maxHeartbeats 4000000 in
theorem yo1 (h : YInv R N 0 x) (hin : x.i < N) (hi : x.i < 150) (ha : a3 (o x.i).1 = 1) (hb : bkB (o x.i).1 (o x.i).2 (hdO x.z.c0) (hdO x.z.c1) = false) {ep nx sn fl tm ii : Int} {hd : Bool} {l : List Int} (hc : x.z.c1 = some ⟨ep, nx, sn, fl, tm, ii, hd, l⟩)
    (J : ∀ x', YInv R N 1 x' → x'.i = x.i → x'.z.c1 ≠ none → ∃ p, YKw p 1 9 R N cap o x' ρ w I) : ∃ p, YG p R N cap o x ρ w I := by
  have F := h.facts hin hi
  obtain ⟨i, ⟨W, st, kd, wd, vl, ch, stb, kdb, wdb, vlb, chb, f, n, c0, c1, c2, c3, p0, q0, p1, q1, p2, q2, p3, q3, d0, d1, d2, d3⟩⟩ := x
  dsimp only at hin hi ha hb hc F
  subst hc
  have b := h.b
  obtain ⟨hin1, hi1, ewi, r1, r2, hl, hl16, w0, w1, s0, s1, n0, n1⟩ := F
  refine ⟨⟨c0, some ⟨ep, nx, sn, fl, tm, ii, hd, l⟩, p0, p1, false, 1, false, 0, w00, r00, dp0⟩, ?_⟩
  have hX := hXTy ⟨c0, some ⟨ep, nx, sn, fl, tm, ii, hd, l⟩, p0, p1, false, 1, false, 0, w00, r00, dp0⟩
  dsimp only [YG, yT, yH, ypH]
  refine sxb hX [.r 9] [] 4000 rfl (by first | exact trivial | simp [conjP]) ?_
  refine sxb hX [.r 9] [.T, .T] 4000 rfl (by simp [conjP, hin, hin1, hi1, hb, wrP, wrE, wlE, dwP, dwE]) ?_
  simp only [Int.toNat_natCast, ha]
  refine sxb hX [.r 12] [] 4000 rfl (by (simp [-List.getD_eq_getElem?_getD, -List.length_eq_zero_iff, conjP])) ?_
  refine sxb hX [.r 12] [.F] 4000 rfl (by (simp [-List.getD_eq_getElem?_getD, -List.length_eq_zero_iff, conjP, getH, HE.so, hin, hin1, wrP, wrE, dwP, dwE])) ?_
  (obtain ⟨pp, h1⟩ := J ⟨i, ⟨W, st, kd, wd, vl, ch, stb, kdb, wdb, vlb, chb, f, n, c0, some ⟨ep, nx, sn, fl, tm, ii, hd, l⟩, c2, c3, p0, q0, p1, q1, p2, q2, p3, q3, d0, d1, d2, d3⟩⟩ ⟨b.mono (by show 2 * i + 0 ≤ 2 * i + 1; omega) (by show 2 * i + 1 ≤ 10000; omega), by show i + 1 ≤ N; omega, by show i + 1 ≤ 150; omega⟩ rfl (fun q => by cases q); refine ss_sub hX (T' := ykT 1 9 N cap ⟨i, ⟨W, st, kd, wd, vl, ch, stb, kdb, wdb, vlb, chb, f, n, c0, some ⟨ep, nx, sn, fl, tm, ii, hd, l⟩, c2, c3, p0, q0, p1, q1, p2, q2, p3, q3, d0, d1, d2, d3⟩⟩) (H' := yH N o R ⟨i, ⟨W, st, kd, wd, vl, ch, stb, kdb, wdb, vlb, chb, f, n, c0, some ⟨ep, nx, sn, fl, tm, ii, hd, l⟩, c2, c3, p0, q0, p1, q1, p2, q2, p3, q3, d0, d1, d2, d3⟩⟩) [0, 1, 2, 3, 4, 5, 6, 7, 8, 9, 10, 11, 12, 13, 14, 15, 16, 17, 18, 19, 20, 21, 22, 23, 24, 25, 26, 27] rfl rfl rfl rfl ?tt ?hh ?ot ?ok (ss_sw hX (sw_ss (hXTy pp) (cs := []) h1)); (case tt => (exact clhY)); (case hh => (exact clhY)); (case ot => (exact clkY)); (case ok => (exact clkY)))
set_option maxHeartbeats 4000000 in
theorem yg2 (h : YInv R N 0 x) (hin : x.i < N) (hi : x.i < 150) (ha : a3 (o x.i).1 = 2) (hb : bkB (o x.i).1 (o x.i).2 (hdO x.z.c0) (hdO x.z.c1) = false) (hc : x.z.c2 = none)
    (J : ∀ x', YInv R N 1 x' → x'.i = x.i → x'.z.c2 ≠ none → ∃ p, YKw p 2 10 R N cap o x' ρ w I) : ∃ p, YG p R N cap o x ρ w I := by
  have F := h.facts hin hi
  obtain ⟨i, ⟨W, st, kd, wd, vl, ch, stb, kdb, wdb, vlb, chb, f, n, c0, c1, c2, c3, p0, q0, p1, q1, p2, q2, p3, q3, d0, d1, d2, d3⟩⟩ := x
  dsimp only at hin hi ha hb hc F
  subst hc
  have b := h.b
  obtain ⟨hin1, hi1, ewi, r1, r2, hl, hl16, w0, w1, s0, s1, n0, n1⟩ := F
  have n2 : n < 1000000 := by omega
  have hl21 := hl.symm
  have hcm := a3_cases (o i).2
  refine ⟨⟨c0, c1, p0, p1, false, 2, true, 0, w00, r00, dp0⟩, ?_⟩
  have hX := hXTy ⟨c0, c1, p0, p1, false, 2, true, 0, w00, r00, dp0⟩
  dsimp only [YG, yT, yH, ypH]
  refine sxb hX [.r 9] [] 4000 rfl (by first | exact trivial | simp [conjP]) ?_
  refine sxb hX [.r 9] [.T, .T] 4000 rfl (by simp [conjP, hin, hin1, hi1, hb, wrP, wrE, wlE, dwP, dwE]) ?_
  simp only [Int.toNat_natCast, ha]
  refine sxb hX [.r 12] [] 4000 rfl (by (simp [-List.getD_eq_getElem?_getD, -List.length_eq_zero_iff, conjP])) ?_
  refine sxb hX [.r 12] [.F] 4000 rfl (by (simp [-List.getD_eq_getElem?_getD, -List.length_eq_zero_iff, conjP, hin, hin1, r1, r2, hl, w0, w1, rdP, bsV, bwE, Int.toNat_natCast])) ?_
  (obtain ⟨pp, h1⟩ := J ⟨i, ⟨W, st, kd, wd, vl, ch, stb, kdb, wdb, vlb, chb, f, n, c0, c1, some ⟨epW (W.getD 7 0), 1, 0, 0, 0, none⟩, c3, p0, q0, p1, q1, p2, q2, p3, q3, d0, d1, d2, d3⟩⟩ ⟨BInv.nx b b.hl b.hw (b.o0) (b.o1) (rok_new r1) (b.o3) (hi := by show 2 * i + 0 + 1 ≤ 10000; omega), by show i + 1 ≤ N; omega, by show i + 1 ≤ 150; omega⟩ rfl (fun q => by cases q); refine ss_sub hX (T' := ykT 2 10 N cap ⟨i, ⟨W, st, kd, wd, vl, ch, stb, kdb, wdb, vlb, chb, f, n, c0, c1, some ⟨epW (W.getD 7 0), 1, 0, 0, 0, none⟩, c3, p0, q0, p1, q1, p2, q2, p3, q3, d0, d1, d2, d3⟩⟩) (H' := yH N o R ⟨i, ⟨W, st, kd, wd, vl, ch, stb, kdb, wdb, vlb, chb, f, n, c0, c1, some ⟨epW (W.getD 7 0), 1, 0, 0, 0, none⟩, c3, p0, q0, p1, q1, p2, q2, p3, q3, d0, d1, d2, d3⟩⟩) [0, 1, 2, 3, 4, 5, 6, 7, 8, 9, 10, 11, 12, 13, 14, 15, 28, 61, 18, 19, 20, 21, 22, 23, 29, 62, 26, 27] rfl rfl rfl rfl ?tt ?hh ?ot ?ok (ss_sw hX (sw_ss (hXTy pp) (cs := []) h1)); (case tt => (exact clhY)); (case hh => (exact clhY)); (case ot => (exact clkY)); (case ok => (exact clkY)))
set_option maxHeartbeats 4000000 in
theorem yo2 (h : YInv R N 0 x) (hin : x.i < N) (hi : x.i < 150) (ha : a3 (o x.i).1 = 2) (hb : bkB (o x.i).1 (o x.i).2 (hdO x.z.c0) (hdO x.z.c1) = false) {ep nx sn fl tm : Int} {o' : Option (List Int)} (hc : x.z.c2 = some ⟨ep, nx, sn, fl, tm, o'⟩)
    (J : ∀ x', YInv R N 1 x' → x'.i = x.i → x'.z.c2 ≠ none → ∃ p, YKw p 2 10 R N cap o x' ρ w I) : ∃ p, YG p R N cap o x ρ w I := by
  have F := h.facts hin hi
  obtain ⟨i, ⟨W, st, kd, wd, vl, ch, stb, kdb, wdb, vlb, chb, f, n, c0, c1, c2, c3, p0, q0, p1, q1, p2, q2, p3, q3, d0, d1, d2, d3⟩⟩ := x
  dsimp only at hin hi ha hb hc F
  subst hc
  have b := h.b
  obtain ⟨hin1, hi1, ewi, r1, r2, hl, hl16, w0, w1, s0, s1, n0, n1⟩ := F
  refine ⟨⟨c0, c1, p0, p1, false, 2, false, 0, w00, r00, dp0⟩, ?_⟩
  have hX := hXTy ⟨c0, c1, p0, p1, false, 2, false, 0, w00, r00, dp0⟩
  dsimp only [YG, yT, yH, ypH]
  refine sxb hX [.r 9] [] 4000 rfl (by first | exact trivial | simp [conjP]) ?_
  refine sxb hX [.r 9] [.T, .T] 4000 rfl (by simp [conjP, hin, hin1, hi1, hb, wrP, wrE, wlE, dwP, dwE]) ?_
  simp only [Int.toNat_natCast, ha]
  refine sxb hX [.r 12] [] 4000 rfl (by (simp [-List.getD_eq_getElem?_getD, -List.length_eq_zero_iff, conjP])) ?_
  refine sxb hX [.r 12] [.F] 4000 rfl (by (simp [-List.getD_eq_getElem?_getD, -List.length_eq_zero_iff, conjP, getH, HE.so, hin, hin1, rdP, rdE, drP, drE])) ?_
  (obtain ⟨pp, h1⟩ := J ⟨i, ⟨W, st, kd, wd, vl, ch, stb, kdb, wdb, vlb, chb, f, n, c0, c1, some ⟨ep, nx, sn, fl, tm, o'⟩, c3, p0, q0, p1, q1, p2, q2, p3, q3, d0, d1, d2, d3⟩⟩ ⟨b.mono (by show 2 * i + 0 ≤ 2 * i + 1; omega) (by show 2 * i + 1 ≤ 10000; omega), by show i + 1 ≤ N; omega, by show i + 1 ≤ 150; omega⟩ rfl (fun q => by cases q); refine ss_sub hX (T' := ykT 2 10 N cap ⟨i, ⟨W, st, kd, wd, vl, ch, stb, kdb, wdb, vlb, chb, f, n, c0, c1, some ⟨ep, nx, sn, fl, tm, o'⟩, c3, p0, q0, p1, q1, p2, q2, p3, q3, d0, d1, d2, d3⟩⟩) (H' := yH N o R ⟨i, ⟨W, st, kd, wd, vl, ch, stb, kdb, wdb, vlb, chb, f, n, c0, c1, some ⟨ep, nx, sn, fl, tm, o'⟩, c3, p0, q0, p1, q1, p2, q2, p3, q3, d0, d1, d2, d3⟩⟩) [0, 1, 2, 3, 4, 5, 6, 7, 8, 9, 10, 11, 12, 13, 14, 15, 16, 17, 18, 19, 20, 21, 22, 23, 24, 25, 26, 27] rfl rfl rfl rfl ?tt ?hh ?ot ?ok (ss_sw hX (sw_ss (hXTy pp) (cs := []) h1)); (case tt => (exact clhY)); (case hh => (exact clhY)); (case ot => (exact clkY)); (case ok => (exact clkY)))
set_option maxHeartbeats 4000000 in
theorem yg3 (h : YInv R N 0 x) (hin : x.i < N) (hi : x.i < 150) (ha : a3 (o x.i).1 = 3) (hb : bkB (o x.i).1 (o x.i).2 (hdO x.z.c0) (hdO x.z.c1) = false) (hc : x.z.c3 = none)
    (J : ∀ x', YInv R N 1 x' → x'.i = x.i → x'.z.c3 ≠ none → ∃ p, YKw p 3 11 R N cap o x' ρ w I) : ∃ p, YG p R N cap o x ρ w I := by
  have F := h.facts hin hi
  obtain ⟨i, ⟨W, st, kd, wd, vl, ch, stb, kdb, wdb, vlb, chb, f, n, c0, c1, c2, c3, p0, q0, p1, q1, p2, q2, p3, q3, d0, d1, d2, d3⟩⟩ := x
  dsimp only at hin hi ha hb hc F
  subst hc
  have b := h.b
  obtain ⟨hin1, hi1, ewi, r1, r2, hl, hl16, w0, w1, s0, s1, n0, n1⟩ := F
  have n2 : n < 1000000 := by omega
  have hl21 := hl.symm
  have hcm := a3_cases (o i).2
  refine ⟨⟨c0, c1, p0, p1, false, 3, true, 0, w00, r00, dp0⟩, ?_⟩
  have hX := hXTy ⟨c0, c1, p0, p1, false, 3, true, 0, w00, r00, dp0⟩
  dsimp only [YG, yT, yH, ypH]
  refine sxb hX [.r 9] [] 4000 rfl (by first | exact trivial | simp [conjP]) ?_
  refine sxb hX [.r 9] [.T, .T] 4000 rfl (by simp [conjP, hin, hin1, hi1, hb, wrP, wrE, wlE, dwP, dwE]) ?_
  simp only [Int.toNat_natCast, ha]
  refine sxb hX [.r 12] [] 4000 rfl (by (simp [-List.getD_eq_getElem?_getD, -List.length_eq_zero_iff, conjP])) ?_
  refine sxb hX [.r 12] [.F] 4000 rfl (by (simp [-List.getD_eq_getElem?_getD, -List.length_eq_zero_iff, conjP, hin, hin1, r1, r2, hl, w0, w1, rdP, bsV, bwE, Int.toNat_natCast])) ?_
  (obtain ⟨pp, h1⟩ := J ⟨i, ⟨W, st, kd, wd, vl, ch, stb, kdb, wdb, vlb, chb, f, n, c0, c1, c2, some ⟨epW (W.getD 7 0), 1, 0, 0, 0, none⟩, p0, q0, p1, q1, p2, q2, p3, q3, d0, d1, d2, d3⟩⟩ ⟨BInv.nx b b.hl b.hw (b.o0) (b.o1) (b.o2) (rok_new r1) (hi := by show 2 * i + 0 + 1 ≤ 10000; omega), by show i + 1 ≤ N; omega, by show i + 1 ≤ 150; omega⟩ rfl (fun q => by cases q); refine ss_sub hX (T' := ykT 3 11 N cap ⟨i, ⟨W, st, kd, wd, vl, ch, stb, kdb, wdb, vlb, chb, f, n, c0, c1, c2, some ⟨epW (W.getD 7 0), 1, 0, 0, 0, none⟩, p0, q0, p1, q1, p2, q2, p3, q3, d0, d1, d2, d3⟩⟩) (H' := yH N o R ⟨i, ⟨W, st, kd, wd, vl, ch, stb, kdb, wdb, vlb, chb, f, n, c0, c1, c2, some ⟨epW (W.getD 7 0), 1, 0, 0, 0, none⟩, p0, q0, p1, q1, p2, q2, p3, q3, d0, d1, d2, d3⟩⟩) [0, 1, 2, 3, 4, 5, 6, 7, 8, 9, 10, 11, 12, 13, 14, 15, 16, 17, 28, 61, 20, 21, 22, 23, 24, 25, 29, 62] rfl rfl rfl rfl ?tt ?hh ?ot ?ok (ss_sw hX (sw_ss (hXTy pp) (cs := []) h1)); (case tt => (exact clhY)); (case hh => (exact clhY)); (case ot => (exact clkY)); (case ok => (exact clkY)))
set_option maxHeartbeats 4000000 in
theorem yo3 (h : YInv R N 0 x) (hin : x.i < N) (hi : x.i < 150) (ha : a3 (o x.i).1 = 3) (hb : bkB (o x.i).1 (o x.i).2 (hdO x.z.c0) (hdO x.z.c1) = false) {ep nx sn fl tm : Int} {o' : Option (List Int)} (hc : x.z.c3 = some ⟨ep, nx, sn, fl, tm, o'⟩)
    (J : ∀ x', YInv R N 1 x' → x'.i = x.i → x'.z.c3 ≠ none → ∃ p, YKw p 3 11 R N cap o x' ρ w I) : ∃ p, YG p R N cap o x ρ w I := by
  have F := h.facts hin hi
  obtain ⟨i, ⟨W, st, kd, wd, vl, ch, stb, kdb, wdb, vlb, chb, f, n, c0, c1, c2, c3, p0, q0, p1, q1, p2, q2, p3, q3, d0, d1, d2, d3⟩⟩ := x
  dsimp only at hin hi ha hb hc F
  subst hc
  have b := h.b
  obtain ⟨hin1, hi1, ewi, r1, r2, hl, hl16, w0, w1, s0, s1, n0, n1⟩ := F
  refine ⟨⟨c0, c1, p0, p1, false, 3, false, 0, w00, r00, dp0⟩, ?_⟩
  have hX := hXTy ⟨c0, c1, p0, p1, false, 3, false, 0, w00, r00, dp0⟩
  dsimp only [YG, yT, yH, ypH]
  refine sxb hX [.r 9] [] 4000 rfl (by first | exact trivial | simp [conjP]) ?_
  refine sxb hX [.r 9] [.T, .T] 4000 rfl (by simp [conjP, hin, hin1, hi1, hb, wrP, wrE, wlE, dwP, dwE]) ?_
  simp only [Int.toNat_natCast, ha]
  refine sxb hX [.r 12] [] 4000 rfl (by (simp [-List.getD_eq_getElem?_getD, -List.length_eq_zero_iff, conjP])) ?_
  refine sxb hX [.r 12] [.F] 4000 rfl (by (simp [-List.getD_eq_getElem?_getD, -List.length_eq_zero_iff, conjP, getH, HE.so, hin, hin1, rdP, rdE, drP, drE])) ?_
  (obtain ⟨pp, h1⟩ := J ⟨i, ⟨W, st, kd, wd, vl, ch, stb, kdb, wdb, vlb, chb, f, n, c0, c1, c2, some ⟨ep, nx, sn, fl, tm, o'⟩, p0, q0, p1, q1, p2, q2, p3, q3, d0, d1, d2, d3⟩⟩ ⟨b.mono (by show 2 * i + 0 ≤ 2 * i + 1; omega) (by show 2 * i + 1 ≤ 10000; omega), by show i + 1 ≤ N; omega, by show i + 1 ≤ 150; omega⟩ rfl (fun q => by cases q); refine ss_sub hX (T' := ykT 3 11 N cap ⟨i, ⟨W, st, kd, wd, vl, ch, stb, kdb, wdb, vlb, chb, f, n, c0, c1, c2, some ⟨ep, nx, sn, fl, tm, o'⟩, p0, q0, p1, q1, p2, q2, p3, q3, d0, d1, d2, d3⟩⟩) (H' := yH N o R ⟨i, ⟨W, st, kd, wd, vl, ch, stb, kdb, wdb, vlb, chb, f, n, c0, c1, c2, some ⟨ep, nx, sn, fl, tm, o'⟩, p0, q0, p1, q1, p2, q2, p3, q3, d0, d1, d2, d3⟩⟩) [0, 1, 2, 3, 4, 5, 6, 7, 8, 9, 10, 11, 12, 13, 14, 15, 16, 17, 18, 19, 20, 21, 22, 23, 24, 25, 26, 27] rfl rfl rfl rfl ?tt ?hh ?ot ?ok (ss_sw hX (sw_ss (hXTy pp) (cs := []) h1)); (case tt => (exact clhY)); (case hh => (exact clhY)); (case ot => (exact clkY)); (case ok => (exact clkY)))
end
end Go.Proofs.YtmghcelohnlceaaGreatDoor
