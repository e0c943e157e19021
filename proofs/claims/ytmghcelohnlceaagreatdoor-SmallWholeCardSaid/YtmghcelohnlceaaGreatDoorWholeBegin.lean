/- SmallWhole: the world of a turn, and what is so. -/
import Derived.Test.YtmghcelohnlceaaGreatDoorAloneRows
import Derived.Test.YtmghcelohnlceaaGreatDoorWholeLaw
import Derived.Test.YtmghcelohnlceaaGreatDoorAloneMade
import Derived.Test.YtmghcelohnlceaaGreatDoorTopTwo
namespace Go.Proofs.YtmghcelohnlceaaGreatDoor
open Go Go.Hx
set_option maxRecDepth 8000
def ctTw (p : TP) : Nat → Option Hx.Spec
  | 11 => some (whoS p.f p.o0 p.o1 p.back)
  | 12 => some (begS p.i p.f p.idle)
  | 13 => some (wStG p.q p.w)
  | 14 => some (rStH p.q p.r)
  | 15 => some (arWordsS)
  | 21 => some (arLastS)
  | 24 => some (arStepsS)
  | 22 => some (pureS ctlKS)
  | 17 => some (top1S)
  | _ => none
theorem ctTw_ok (p : TP) : ∀ f s args H ob V L, ctTw p f = some s → s args H = some (ob, V, L) → AllP ob → Gives Tryz.prog f args H (Is V L) := by
  intro f s args H ob V L h hs ho
  unfold ctTw at h
  split at h
  · simp at h; subst h; exact whoS_ok hs ho
  · simp at h; subst h; exact begS_ok hs ho
  · simp at h; subst h; exact wStG_ok hs ho
  · simp at h; subst h; exact rStH_ok hs ho
  · simp at h; subst h; exact arWordsS_ok hs ho
  · simp at h; subst h; exact arLastS_ok hs ho
  · simp at h; subst h; exact arStepsS_ok hs ho
  · simp at h; subst h; exact pureS_ok ⟨_, hTE⟩ (ctlKS_ok) hs ho
  · simp at h; subst h; exact top1S_ok hs ho
  · simp at h
noncomputable def XTw (p : TP) : Tabs := tabs tr ft xt (fun _ => none) (ctTw p) 0
theorem hXTw (p : TP) : TOk Tryz.prog (XTw p) := ⟨hTE, hFT, (ctTw_ok p), hXT, fun t ks h => by simp [XTw, tabs] at h, mixed⟩
/-- A list of numbers: none, or grown. -/
def idV (b : Bool) (h : Nat) (l : List Int) : SV := bif b then .sbuf h 1 0 l.length else .nilslice
def idE (k : IntKind) (b : Bool) (l : List Int) (t : Nat) : HE := bif b then .obj (.buf k l 1 t) else .absent
theorem ren_idE {k : IntKind} {b : Bool} {l : List Int} {t : Nat} {σ : Nat → Nat} : (idE k b l t).ren σ = idE k b l t := by cases b <;> rfl
theorem sim_idV {b : Bool} {l : List Int} {σ : Nat → Nat} {h h' : Nat} (hs : σ h = h') : sim (idV b h' l) ((idV b h l).ren σ) := by subst hs; cases b <;> exact sim_refl _
theorem okE_idE {k : IntKind} {b : Bool} {l : List Int} {t : Nat} {A : Nat → Bool} : okE A (idE k b l t) := by cases b <;> trivial
theorem okP_idV {H' : List HE} {k : IntKind} {b : Bool} {l : List Int} {t h : Nat} (e : thereF H' h = (idE k b l t).there) : okP (thereF H') (idV b h l) := by cases b <;> first | exact trivial | simpa [idV, okP, idE, HE.there] using e
theorem clhX {P : Prop} (h : P := by repeat' (first | exact rfl | exact trivial | exact sim_refl _ | exact simO_refl _ | exact subE_same rfl ren_idE | exact sim_idV rfl | exact subE_same rfl ren_wlE | exact subE_same rfl ren_rlE | exact subE_same rfl ren_bwE | exact subE_wrE rfl rfl | exact subE_rdE rfl rfl | exact sim_wrP rfl | exact sim_rdP rfl | exact sim_bsV rfl | assumption | refine And.intro ?_ ?_)) : P := h
theorem clkX {P : Prop} (h : P := by repeat' (first | exact rfl | exact trivial | exact okE_idE | exact okE_wlE | exact okE_rlE | exact okE_bwE | exact okE_wrE rfl | exact okE_rdE rfl | exact okP_wrP (i := 13) rfl | exact okP_wrP (i := 15) rfl | exact okP_rdP (i := 17) rfl | exact okP_rdP (i := 19) rfl | exact okP_bsV rfl | exact okP_idV rfl | refine And.intro ?_ ?_)) : P := h
structure XS where
  (i : Nat) (z : Wd) (now : Int) (b : Bool) (ds mm : List Int) (g0 g1 h2 h3 : Int)
def xwT (N cap : Nat) (x : XS) : List (Nat × SV) := [(1, .slice 0 0 N cap), (5, .tt), (6, .ptr 2 0), (7, idV x.b 22 x.ds), (8, idV x.b 23 x.mm), (9, .ptr 20 0), (10, .int .u64 x.now), (11, .ptr 21 0), (12, .int .i64 (x.i : Int))]
def xkT (K : Int) (C N cap : Nat) (x : XS) : List (Nat × SV) := [(1, .slice 0 0 N cap), (5, .tt), (6, .ptr 2 0), (7, idV x.b 22 x.ds), (8, idV x.b 23 x.mm), (9, .ptr 20 0), (10, .int .u64 x.now), (11, .ptr 21 0), (12, .int .i64 (x.i : Int)), (13, .int .i64 K), (15, .ptr C 0)]
def xwH (N : Nat) (o : Nat → Int × Int) (R : Int) (x : XS) : List HE := wdH (.obj (.rows N 2 (actR o))) R x.z [.obj (.ints .u64 [x.g0, x.g1, 0, 0] 67), .obj (.ints .u64 [0, 0, x.h2, x.h3] 67), idE .u64 x.b x.ds 39, idE .i64 x.b x.mm 3]
/-- What is so; h: a client has begun, and not had its turn. -/
structure XInv (R : Int) (N h : Nat) (x : XS) : Prop where
  b : BInv R (2 * x.i + h) x.z
  hn : x.i + h ≤ N
  hi : x.i + h ≤ 200
  m : MI x.z.W x.z.c0 x.z.c1
  j : LJ x.z.W x.z.c0 x.z.c1 x.g0 x.g1 x.z.n x.now (0 :: x.mm)
  bf : x.b = false → x.ds = [] ∧ x.mm = []
  dl : x.ds.length = x.mm.length
  dv : ∀ k : Nat, k < x.ds.length → x.ds.getD k 0 = (k : Int) + 1
  ep : epW (x.z.W.getD 7 0) ≤ (x.i : Int)
  q2 : ∀ s, x.z.c2 = some s → RQ x.z.W (0 :: x.mm) s x.h2
  q3 : ∀ s, x.z.c3 = some s → RQ x.z.W (0 :: x.mm) s x.h3
theorem XInv.facts {R : Int} {N h : Nat} {x : XS} (h' : XInv R N h x) (hin : x.i < N) (hi : x.i < 200) : (x.i : Int) < (N : Int) ∧ (x.i : Int) < 200 ∧ IntKind.i64.wrap ((x.i : Int) + 1) = ((x.i + 1 : Nat) : Int) ∧
    1 ≤ R ∧ R ≤ 8 ∧ x.z.W.length = 21 ∧ 16 ≤ x.z.W.length ∧ 0 ≤ x.z.W.getD 7 0 ∧ x.z.W.getD 7 0 < 18446744073709551616 ∧ 0 ≤ x.z.st ∧ x.z.st < 1000000 ∧ 0 ≤ x.z.n ∧ x.z.n < 1000000 - 1 := by
  have b := h'.b
  have h2 := b.s0
  have h3 := b.s1
  have h4 := b.n1
  have h5 := h'.hi
  exact ⟨by omega, by omega, by rw [wi64 (by omega) (by omega)]; omega, b.r1, b.r2, b.hl, by have := b.hl; omega, (b.hw 7).1, (b.hw 7).2, h2, by omega, b.n0, by omega⟩
theorem BInv.mono {R : Int} {i j : Nat} {z : Wd} (h : BInv R i z) (hij : i ≤ j) (hj : j ≤ 10000) : BInv R j z := by
  have h2 := h.s1
  have h3 := h.t1
  have h4 := h.n1
  exact ⟨h.r1, h.r2, hj, h.hl, h.hw, h.s0, by omega, h.t0, by omega, h.n0, by omega, h.o0, h.o1, h.o2, h.o3⟩
theorem wrap_id {n : Int} (h0 : -1000000000 ≤ n) (h1 : n ≤ 1000000000) : IntKind.i64.wrap n = n := wi64 (by omega) (by omega)
theorem dv_more {ds : List Int} {n : Int} (h : ∀ k : Nat, k < ds.length → ds.getD k 0 = (k : Int) + 1) (hl : (ds.length : Int) = n) : ∀ k : Nat, k < (ds ++ [n + 1]).length → (ds ++ [n + 1]).getD k 0 = (k : Int) + 1 := fun k hk => by
  by_cases g : k < ds.length
  · rw [getD_app g]; exact h k g
  · have e : k = ds.length := by simp at hk; omega
    subst e
    rw [show (ds ++ [n + 1]).getD ds.length 0 = n + 1 by simp [List.getD_eq_getElem?_getD], hl]
theorem RQ.more1 {W mm : List Int} {t : RS} {wh v : Int} (h : RQ W (0 :: mm) t wh) : RQ W (0 :: (mm ++ [v])) t wh := by
  have := h.more (v := v)
  rwa [List.cons_append] at this
theorem ep_back {W : List Int} (he : epW (W.getD 7 0) < 30000) (hl : W.length = 21) : epW (((W.set 7 (goneW (W.getD 7 0))).set 7 (bornW (goneW (W.getD 7 0)))).getD 7 0) = epW (W.getD 7 0) + 1 :=
  (RQ.back (m := []) (t := ⟨0, 1, 0, 0, 0, none⟩) (wh := 0) (RQ.new rfl) he hl).2
theorem ep_fin {R : Int} {s : WS} {W : List Int} {st : Int} {c1 : Option WS} {r : WR} (mi : MI W (some s) c1) (ok : WOk R s) (hl : W.length = 21) (hr : wStep R s W st = r) (hk : r.k = 2) : epW (r.W.getD 7 0) = epW (W.getD 7 0) := by
  subst hr
  obtain ⟨e, hx⟩ := wFin (st := st) ok hk
  have lv := ok.lv (by omega)
  rw [e, set_getD, if_pos ⟨rfl, by omega⟩, ep_wr ok.sn0 ok.sn1 lv.2.1, mi.h0 s rfl (by omega), ep_busy ok.sn0 ok.sn1]
end Go.Proofs.YtmghcelohnlceaaGreatDoor

/- SmallWhole: the topic goes, and comes anew; a client begins. -/
namespace Go.Proofs.YtmghcelohnlceaaGreatDoor
open Go Go.Hx
set_option maxRecDepth 8000
section
variable {R : Int} {N cap : Nat} {o : Nat → Int × Int} {x : XS} {ρ : Nat → Nat × Nat} {w : World} {I : Act → World → Prop}
abbrev XJJ (p : TP) (R : Int) (N cap : Nat) (o : Nat → Int × Int) (x : XS) (ρ : Nat → Nat × Nat) (w : World) (I : Act → World → Prop) : Prop :=
  ∀ x', XInv R N 0 x' → x'.i = x.i + 1 → ∀ cs T H, Sub (FEnv Tryz.prog (XTw p).TE (hXTw p).te Tryz.f5 Tryz.f5.ntmps [.obj (.rows N 2 (actR o)), pinE RTV] (Is .tt [.obj (.rows N 2 (actR o)), pinE RTV]) ρ w) T H (xwT N cap x') (xwH N o R x') →
    SS (hXTw p) (At ρ w) (Is .tt [.obj (.rows N 2 (actR o)), pinE RTV]) ⟨cs, [], Tryz.f5, Tryz.f5.ntmps, [.obj (.rows N 2 (actR o)), pinE RTV], downLp (contF Tryz.f5 11 [I]), T, H⟩
abbrev XG (p : TP) (R : Int) (N cap : Nat) (o : Nat → Int × Int) (x : XS) (ρ : Nat → Nat × Nat) (w : World) (I : Act → World → Prop) : Prop :=
  SS (hXTw p) (At ρ w) (Is .tt [.obj (.rows N 2 (actR o)), pinE RTV]) ⟨[], [], Tryz.f5, Tryz.f5.ntmps, [.obj (.rows N 2 (actR o)), pinE RTV], contF Tryz.f5 11 [I], xwT N cap x, xwH N o R x⟩
/-- Where a client has its turn. -/
abbrev XKw (p : TP) (K : Int) (C : Nat) (R : Int) (N cap : Nat) (o : Nat → Int × Int) (x : XS) (ρ : Nat → Nat × Nat) (w : World) (I : Act → World → Prop) : Prop :=
  SS (hXTw p) (At ρ w) (Is .tt [.obj (.rows N 2 (actR o)), pinE RTV]) ⟨[], [], Tryz.f5, Tryz.f5.ntmps, [.obj (.rows N 2 (actR o)), pinE RTV], contF Tryz.f5 23 [I], xkT K C N cap x, xwH N o R x⟩
set_option maxHeartbeats 4000000 in
theorem xbk (h : XInv R N 0 x) (hin : x.i < N) (hi : x.i < 200) (hb : bkB (o x.i).1 (o x.i).2 (hdO x.z.c0) (hdO x.z.c1) = true) (J : ∀ p, XJJ p R N cap o x ρ w I) : ∃ p, XG p R N cap o x ρ w I := by
  have F := h.facts hin hi
  obtain ⟨i, ⟨W, st, kd, wd, vl, ch, stb, kdb, wdb, vlb, chb, f, n, c0, c1, c2, c3, p0, q0, p1, q1, p2, q2, p3, q3, d0, d1, d2, d3⟩, now, bm, ds, mm, g0, g1, h2, h3⟩ := x
  dsimp only at hin hi hb F
  have b := h.b
  obtain ⟨hin1, hi1, ewi, r1, r2, hl, hl16, w0, w1, s0, s1, n0, n1⟩ := F
  have t0 : 0 ≤ stb := b.t0
  have t1 : stb < 1000000 := by have h1 : stb ≤ 100 + 2 * ((2 * i + 0 : Nat) : Int) := b.t1; omega
  have he : epW (W.getD 7 0) ≤ (i : Int) := h.ep
  obtain ⟨k0, k1⟩ := bk_hd hb
  have hLn : (((W.set 7 (goneW (W.getD 7 0))).set 7 (bornW (goneW (W.getD 7 0))))).length = 21 := by simp only [List.length_set]; exact hl
  have hWn : ∀ j, 0 ≤ (((W.set 7 (goneW (W.getD 7 0))).set 7 (bornW (goneW (W.getD 7 0))))).getD j 0 ∧ (((W.set 7 (goneW (W.getD 7 0))).set 7 (bornW (goneW (W.getD 7 0))))).getD j 0 < 18446744073709551616 := rg_set (rg_set b.hw gone_r.1 gone_r.2) (born_r gone_r.1).1 (born_r gone_r.1).2
  have hee := ep_back (W := W) (by omega) hl
  refine ⟨⟨f, c0, c1, true, 0, false, 0, w00, r00⟩, ?_⟩
  have hX := hXTw ⟨f, c0, c1, true, 0, false, 0, w00, r00⟩
  dsimp only [XG, xwT, xwH, wdH]
  refine sx hX [] 4000 rfl (by (simp [-List.getD_eq_getElem?_getD, -List.length_eq_zero_iff, conjP])) ?_
  refine sx hX [.T] 4000 rfl (by (simp [-List.getD_eq_getElem?_getD, -List.length_eq_zero_iff, conjP, addOP, hin1])) ?_
  refine sx hX [.T] 4000 rfl (by (simp [-List.getD_eq_getElem?_getD, -List.length_eq_zero_iff, conjP, hin, hin1, hi1, hb, r1, r2, hl, w0, w1, s0, s1, t0, t1, Int.toNat_natCast])) ?_
  refine sx hX [.T] 4000 rfl (by (simp [-List.getD_eq_getElem?_getD, -List.length_eq_zero_iff, conjP, addOP])) ?_
  (refine J _ ⟨i + 1, ⟨((W.set 7 (goneW (W.getD 7 0))).set 7 (bornW (goneW (W.getD 7 0)))), st + 1 + 1, 2, 7, (bornW (goneW (W.getD 7 0))), true, stb + 1 + 1, 2, 7, (bornW (goneW (W.getD 7 0))), true, f, n, c0, c1, c2, c3, p0, q0, p1, q1, p2, q2, p3, q3, d0, d1, d2, d3⟩, 0, bm, ds, mm, g0, g1, h2, h3⟩ ?iv rfl _ _ _ (sub_of [0, 1, 2, 3, 4, 5, 6, 7, 8, 9, 10, 11, 12, 13, 14, 15, 16, 17, 18, 19, 20, 21, 22, 23] rfl rfl rfl rfl ?tt ?hh ?ot ?ok); (case tt => simp only [ewi]; (exact clhX)); (case hh => (exact clhX)); (case ot => (exact clkX)); (case ok => (exact clkX)); (case iv => exact ⟨(BInv.next b (z' := ⟨((W.set 7 (goneW (W.getD 7 0))).set 7 (bornW (goneW (W.getD 7 0)))), st + 1 + 1, 2, 7, (bornW (goneW (W.getD 7 0))), true, stb + 1 + 1, 2, 7, (bornW (goneW (W.getD 7 0))), true, f, n, c0, c1, c2, c3, p0, q0, p1, q1, p2, q2, p3, q3, d0, d1, d2, d3⟩) (by show 2 * i + 0 + 1 ≤ 10000; omega) hLn hWn (by show st ≤ st + 1 + 1; omega) (by show st + 1 + 1 ≤ st + 2; omega) (by show stb ≤ stb + 1 + 1; omega) (by show stb + 1 + 1 ≤ stb + 2; omega) (by show n ≤ n; omega) (by show n ≤ n + 1; omega) b.o0 b.o1 b.o2 b.o3).mono (by show 2 * i + 0 + 1 ≤ 2 * (i + 1) + 0; omega) (by show 2 * (i + 1) + 0 ≤ 10000; omega), by show i + 1 + 0 ≤ N; omega, by show i + 1 + 0 ≤ 200; omega, MI.idle b.o0 b.o1 k0 k1, h.j.back b.o0 b.o1 k0 k1 hl, h.bf, h.dl, h.dv, by (try dsimp only); omega, fun s hs => ((h.q2 s hs).back (by dsimp only; omega) hl).1, fun s hs => ((h.q3 s hs).back (by dsimp only; omega) hl).1⟩))
set_option maxHeartbeats 4000000 in
theorem xg0a (h : XInv R N 0 x) (hin : x.i < N) (hi : x.i < 200) (ha : a3 (o x.i).1 = 0) (hb : bkB (o x.i).1 (o x.i).2 (hdO x.z.c0) (hdO x.z.c1) = false) (hc : x.z.c0 = none) (hbm : x.b = false)
    (J : ∀ x', XInv R N 1 x' → x'.i = x.i → x'.z.c0 ≠ none → ∃ p, XKw p 0 8 R N cap o x' ρ w I) : ∃ p, XG p R N cap o x ρ w I := by
  have F := h.facts hin hi
  obtain ⟨i, ⟨W, st, kd, wd, vl, ch, stb, kdb, wdb, vlb, chb, f, n, c0, c1, c2, c3, p0, q0, p1, q1, p2, q2, p3, q3, d0, d1, d2, d3⟩, now, bm, ds, mm, g0, g1, h2, h3⟩ := x
  dsimp only at hin hi ha hb hc F hbm
  subst hc
  subst hbm
  have b := h.b
  obtain ⟨hin1, hi1, ewi, r1, r2, hl, hl16, w0, w1, s0, s1, n0, n1⟩ := F
  have n2 : n < 1000000 := by omega
  have hcm := a3_cases (o i).2
  obtain ⟨e1, e2⟩ := h.bf rfl
  dsimp only at e1 e2
  subst e1
  subst e2
  have hdn : (([] : List Int).length : Int) = n := by have h1 := h.dl; have h2 := h.j.nm; dsimp only [List.length_cons] at h1 h2; omega
  have hmn : (([] : List Int).length : Int) = n := by have h1 := h.dl; dsimp only at h1; omega
  have hmm : ([] : List Int).length ≤ 1000000000 := by omega
  have hdd : ([] : List Int).length ≤ 1000000000 := by omega
  have hwl : (([] : List Int) ++ [1 + a3 (o i).2]).length = ([] : List Int).length + 1 := by simp
  have hwr := hwl.symm
  have hdl : (([] : List Int) ++ [n + 1]).length = ([] : List Int).length + 1 := by simp
  have hdr := hdl.symm
  have hrl : (1 + a3 (o i).2).toNat = (List.replicate (1 + a3 (o i).2).toNat (n + 1)).length := by simp
  have n3 : n + 1 ≤ 1000000 := by omega
  have ewm : IntKind.i64.wrap (1 + ibits .and .i64 (o i).2 3) = 1 + a3 (o i).2 := wrap_id (by show -1000000000 ≤ 1 + a3 (o i).2; omega) (by show 1 + a3 (o i).2 ≤ 1000000000; omega)
  refine ⟨⟨f, none, c1, false, 0, true, 0, w00, r00⟩, ?_⟩
  have hX := hXTw ⟨f, none, c1, false, 0, true, 0, w00, r00⟩
  dsimp only [XG, xwT, xwH, wdH]
  refine sxb hX [.r 14] [] 4000 rfl (by first | exact trivial | simp [conjP]) ?_
  refine sxb hX [.r 14] [.T, .T] 4000 rfl (by simp [conjP, hin, hin1, hi1, hb]) ?_
  simp only [Int.toNat_natCast, ha]
  refine sxb hX [.r 23] [] 4000 rfl (by (simp [-List.getD_eq_getElem?_getD, -List.length_eq_zero_iff, conjP])) ?_
  refine sxb hX [.r 23] [.F] 4000 rfl (by (simp [-List.getD_eq_getElem?_getD, -List.length_eq_zero_iff, conjP, hin, hin1, r1, r2, hl, w0, w1, n0, n2, wrP, Int.toNat_natCast])) ?_
  refine sxb hX [.r 23] [.T] 4000 rfl (by (simp [-List.getD_eq_getElem?_getD, -List.length_eq_zero_iff, conjP, hin, hin1, Int.toNat_natCast] <;> (first | omega | ((repeat' (refine And.intro ?_ ?_)) <;> (first | omega | exact decide_eq_false (by omega) | exact decide_eq_true (by omega)))))) ?_
  (refine ss_raw hX 8 2 rfl rfl fun v => ?_; obtain ⟨pp, h1⟩ := J ⟨i, ⟨W, st, kd, wd, vl, ch, stb, kdb, wdb, vlb, chb, f, n + 1, some ⟨epW (W.getD 7 0), 1, 0, 0, 0, 0, false, List.replicate (1 + a3 (o i).2).toNat (n + 1)⟩, c1, c2, c3, v, q0, p1, q1, p2, q2, p3, q3, n + 1, d1, d2, d3⟩, now, true, [] ++ [n + 1], [] ++ [(1 + a3 (o i).2)], n + 1, g1, h2, h3⟩ ⟨BInv.nx b b.hl b.hw (wok_new r1 (by omega) (by omega) (by omega) (by omega)) (b.o1) (b.o2) (b.o3) (hi := by show 2 * i + 0 + 1 ≤ 10000; omega), by show i + 1 ≤ N; omega, by show i + 1 ≤ 200; omega, h.m.new rfl, h.j.new (by omega) (by omega) n0, (fun q => by cases q), by rw [List.length_append, List.length_append]; exact congrArg (· + 1) h.dl, dv_more h.dv hdn, h.ep, fun s hs => (h.q2 s hs).more1, fun s hs => (h.q3 s hs).more1⟩ rfl (fun q => by cases q); refine ss_sub hX (T' := xkT 0 8 N cap ⟨i, ⟨W, st, kd, wd, vl, ch, stb, kdb, wdb, vlb, chb, f, n + 1, some ⟨epW (W.getD 7 0), 1, 0, 0, 0, 0, false, List.replicate (1 + a3 (o i).2).toNat (n + 1)⟩, c1, c2, c3, v, q0, p1, q1, p2, q2, p3, q3, n + 1, d1, d2, d3⟩, now, true, [] ++ [n + 1], [] ++ [(1 + a3 (o i).2)], n + 1, g1, h2, h3⟩) (H' := xwH N o R ⟨i, ⟨W, st, kd, wd, vl, ch, stb, kdb, wdb, vlb, chb, f, n + 1, some ⟨epW (W.getD 7 0), 1, 0, 0, 0, 0, false, List.replicate (1 + a3 (o i).2).toNat (n + 1)⟩, c1, c2, c3, v, q0, p1, q1, p2, q2, p3, q3, n + 1, d1, d2, d3⟩, now, true, [] ++ [n + 1], [] ++ [(1 + a3 (o i).2)], n + 1, g1, h2, h3⟩) [0, 1, 2, 3, 4, 5, 6, 7, 8, 9, 10, 11, 24, 25, 14, 15, 16, 17, 18, 19, 20, 21, 29, 31] rfl rfl rfl rfl ?tt ?hh ?ot ?ok (ss_sw hX (sw_ss (hXTw pp) (cs := []) h1)); (case tt => (exact clhX)); (case hh => simp only [Int.toNat_natCast, ewm]; (exact clhX)); (case ot => (exact clkX)); (case ok => (exact clkX)))
set_option maxHeartbeats 4000000 in
theorem xg0b (h : XInv R N 0 x) (hin : x.i < N) (hi : x.i < 200) (ha : a3 (o x.i).1 = 0) (hb : bkB (o x.i).1 (o x.i).2 (hdO x.z.c0) (hdO x.z.c1) = false) (hc : x.z.c0 = none) (hbm : x.b = true)
    (J : ∀ x', XInv R N 1 x' → x'.i = x.i → x'.z.c0 ≠ none → ∃ p, XKw p 0 8 R N cap o x' ρ w I) : ∃ p, XG p R N cap o x ρ w I := by
  have F := h.facts hin hi
  obtain ⟨i, ⟨W, st, kd, wd, vl, ch, stb, kdb, wdb, vlb, chb, f, n, c0, c1, c2, c3, p0, q0, p1, q1, p2, q2, p3, q3, d0, d1, d2, d3⟩, now, bm, ds, mm, g0, g1, h2, h3⟩ := x
  dsimp only at hin hi ha hb hc F hbm
  subst hc
  subst hbm
  have b := h.b
  obtain ⟨hin1, hi1, ewi, r1, r2, hl, hl16, w0, w1, s0, s1, n0, n1⟩ := F
  have n2 : n < 1000000 := by omega
  have hcm := a3_cases (o i).2
  have hdn : (ds.length : Int) = n := by have h1 := h.dl; have h2 := h.j.nm; dsimp only [List.length_cons] at h1 h2; omega
  have hmn : (mm.length : Int) = n := by have h1 := h.dl; dsimp only at h1; omega
  have hmm : mm.length ≤ 1000000000 := by omega
  have hdd : ds.length ≤ 1000000000 := by omega
  have hwl : (mm ++ [1 + a3 (o i).2]).length = mm.length + 1 := by simp
  have hwr := hwl.symm
  have hdl : (ds ++ [n + 1]).length = ds.length + 1 := by simp
  have hdr := hdl.symm
  have hrl : (1 + a3 (o i).2).toNat = (List.replicate (1 + a3 (o i).2).toNat (n + 1)).length := by simp
  have n3 : n + 1 ≤ 1000000 := by omega
  have ewm : IntKind.i64.wrap (1 + ibits .and .i64 (o i).2 3) = 1 + a3 (o i).2 := wrap_id (by show -1000000000 ≤ 1 + a3 (o i).2; omega) (by show 1 + a3 (o i).2 ≤ 1000000000; omega)
  refine ⟨⟨f, none, c1, false, 0, true, 0, w00, r00⟩, ?_⟩
  have hX := hXTw ⟨f, none, c1, false, 0, true, 0, w00, r00⟩
  dsimp only [XG, xwT, xwH, wdH]
  refine sxb hX [.r 14] [] 4000 rfl (by first | exact trivial | simp [conjP]) ?_
  refine sxb hX [.r 14] [.T, .T] 4000 rfl (by simp [conjP, hin, hin1, hi1, hb]) ?_
  simp only [Int.toNat_natCast, ha]
  refine sxb hX [.r 23] [] 4000 rfl (by (simp [-List.getD_eq_getElem?_getD, -List.length_eq_zero_iff, conjP])) ?_
  refine sxb hX [.r 23] [.F] 4000 rfl (by (simp [-List.getD_eq_getElem?_getD, -List.length_eq_zero_iff, conjP, hin, hin1, r1, r2, hl, w0, w1, n0, n2, wrP, Int.toNat_natCast])) ?_
  refine sxb hX [.r 23] [.T] 4000 rfl (by (simp [-List.getD_eq_getElem?_getD, -List.length_eq_zero_iff, conjP, hin, hin1, Int.toNat_natCast] <;> (first | omega | ((repeat' (refine And.intro ?_ ?_)) <;> (first | omega | exact decide_eq_false (by omega) | exact decide_eq_true (by omega)))))) ?_
  (refine ss_raw hX 8 2 rfl rfl fun v => ?_; obtain ⟨pp, h1⟩ := J ⟨i, ⟨W, st, kd, wd, vl, ch, stb, kdb, wdb, vlb, chb, f, n + 1, some ⟨epW (W.getD 7 0), 1, 0, 0, 0, 0, false, List.replicate (1 + a3 (o i).2).toNat (n + 1)⟩, c1, c2, c3, v, q0, p1, q1, p2, q2, p3, q3, n + 1, d1, d2, d3⟩, now, true, ds ++ [n + 1], mm ++ [(1 + a3 (o i).2)], n + 1, g1, h2, h3⟩ ⟨BInv.nx b b.hl b.hw (wok_new r1 (by omega) (by omega) (by omega) (by omega)) (b.o1) (b.o2) (b.o3) (hi := by show 2 * i + 0 + 1 ≤ 10000; omega), by show i + 1 ≤ N; omega, by show i + 1 ≤ 200; omega, h.m.new rfl, h.j.new (by omega) (by omega) n0, (fun q => by cases q), by rw [List.length_append, List.length_append]; exact congrArg (· + 1) h.dl, dv_more h.dv hdn, h.ep, fun s hs => (h.q2 s hs).more1, fun s hs => (h.q3 s hs).more1⟩ rfl (fun q => by cases q); refine ss_sub hX (T' := xkT 0 8 N cap ⟨i, ⟨W, st, kd, wd, vl, ch, stb, kdb, wdb, vlb, chb, f, n + 1, some ⟨epW (W.getD 7 0), 1, 0, 0, 0, 0, false, List.replicate (1 + a3 (o i).2).toNat (n + 1)⟩, c1, c2, c3, v, q0, p1, q1, p2, q2, p3, q3, n + 1, d1, d2, d3⟩, now, true, ds ++ [n + 1], mm ++ [(1 + a3 (o i).2)], n + 1, g1, h2, h3⟩) (H' := xwH N o R ⟨i, ⟨W, st, kd, wd, vl, ch, stb, kdb, wdb, vlb, chb, f, n + 1, some ⟨epW (W.getD 7 0), 1, 0, 0, 0, 0, false, List.replicate (1 + a3 (o i).2).toNat (n + 1)⟩, c1, c2, c3, v, q0, p1, q1, p2, q2, p3, q3, n + 1, d1, d2, d3⟩, now, true, ds ++ [n + 1], mm ++ [(1 + a3 (o i).2)], n + 1, g1, h2, h3⟩) [0, 1, 2, 3, 4, 5, 6, 7, 8, 9, 10, 11, 24, 25, 14, 15, 16, 17, 18, 19, 20, 21, 29, 31] rfl rfl rfl rfl ?tt ?hh ?ot ?ok (ss_sw hX (sw_ss (hXTw pp) (cs := []) h1)); (case tt => (exact clhX)); (case hh => simp only [Int.toNat_natCast, ewm]; (exact clhX)); (case ot => (exact clkX)); (case ok => (exact clkX)))
set_option maxHeartbeats 4000000 in
theorem xo0 (h : XInv R N 0 x) (hin : x.i < N) (hi : x.i < 200) (ha : a3 (o x.i).1 = 0) (hb : bkB (o x.i).1 (o x.i).2 (hdO x.z.c0) (hdO x.z.c1) = false) {ep nx sn fl tm ii : Int} {hd : Bool} {l : List Int} (hc : x.z.c0 = some ⟨ep, nx, sn, fl, tm, ii, hd, l⟩)
    (J : ∀ x', XInv R N 1 x' → x'.i = x.i → x'.z.c0 ≠ none → ∃ p, XKw p 0 8 R N cap o x' ρ w I) : ∃ p, XG p R N cap o x ρ w I := by
  have F := h.facts hin hi
  obtain ⟨i, ⟨W, st, kd, wd, vl, ch, stb, kdb, wdb, vlb, chb, f, n, c0, c1, c2, c3, p0, q0, p1, q1, p2, q2, p3, q3, d0, d1, d2, d3⟩, now, bm, ds, mm, g0, g1, h2, h3⟩ := x
  dsimp only at hin hi ha hb hc F
  subst hc
  have b := h.b
  obtain ⟨hin1, hi1, ewi, r1, r2, hl, hl16, w0, w1, s0, s1, n0, n1⟩ := F
  refine ⟨⟨f, some ⟨ep, nx, sn, fl, tm, ii, hd, l⟩, c1, false, 0, false, 0, w00, r00⟩, ?_⟩
  have hX := hXTw ⟨f, some ⟨ep, nx, sn, fl, tm, ii, hd, l⟩, c1, false, 0, false, 0, w00, r00⟩
  dsimp only [XG, xwT, xwH, wdH]
  refine sxb hX [.r 14] [] 4000 rfl (by first | exact trivial | simp [conjP]) ?_
  refine sxb hX [.r 14] [.T, .T] 4000 rfl (by simp [conjP, hin, hin1, hi1, hb]) ?_
  simp only [Int.toNat_natCast, ha]
  refine sxb hX [.r 23] [] 4000 rfl (by (simp [-List.getD_eq_getElem?_getD, -List.length_eq_zero_iff, conjP])) ?_
  refine sxb hX [.r 23] [.F] 4000 rfl (by (simp [-List.getD_eq_getElem?_getD, -List.length_eq_zero_iff, conjP, getH, HE.so, hin, hin1, wrP, wrE])) ?_
  refine sxb hX [.r 23] [.F] 4000 rfl (by (simp [-List.getD_eq_getElem?_getD, -List.length_eq_zero_iff, conjP, addOP])) ?_
  (obtain ⟨pp, h1⟩ := J ⟨i, ⟨W, st, kd, wd, vl, ch, stb, kdb, wdb, vlb, chb, f, n, some ⟨ep, nx, sn, fl, tm, ii, hd, l⟩, c1, c2, c3, p0, q0, p1, q1, p2, q2, p3, q3, d0, d1, d2, d3⟩, now, bm, ds, mm, g0, g1, h2, h3⟩ ⟨b.mono (by show 2 * i + 0 ≤ 2 * i + 1; omega) (by show 2 * i + 1 ≤ 10000; omega), by show i + 1 ≤ N; omega, by show i + 1 ≤ 200; omega, h.m, h.j, h.bf, h.dl, h.dv, h.ep, h.q2, h.q3⟩ rfl (fun q => by cases q); refine ss_sub hX (T' := xkT 0 8 N cap ⟨i, ⟨W, st, kd, wd, vl, ch, stb, kdb, wdb, vlb, chb, f, n, some ⟨ep, nx, sn, fl, tm, ii, hd, l⟩, c1, c2, c3, p0, q0, p1, q1, p2, q2, p3, q3, d0, d1, d2, d3⟩, now, bm, ds, mm, g0, g1, h2, h3⟩) (H' := xwH N o R ⟨i, ⟨W, st, kd, wd, vl, ch, stb, kdb, wdb, vlb, chb, f, n, some ⟨ep, nx, sn, fl, tm, ii, hd, l⟩, c1, c2, c3, p0, q0, p1, q1, p2, q2, p3, q3, d0, d1, d2, d3⟩, now, bm, ds, mm, g0, g1, h2, h3⟩) [0, 1, 2, 3, 4, 5, 6, 7, 8, 9, 10, 11, 12, 13, 14, 15, 16, 17, 18, 19, 20, 21, 22, 23] rfl rfl rfl rfl ?tt ?hh ?ot ?ok (ss_sw hX (sw_ss (hXTw pp) (cs := []) h1)); (case tt => (exact clhX)); (case hh => (exact clhX)); (case ot => (exact clkX)); (case ok => (exact clkX)))
set_option maxHeartbeats 4000000 in
theorem xg1a (h : XInv R N 0 x) (hin : x.i < N) (hi : x.i < 200) (ha : a3 (o x.i).1 = 1) (hb : bkB (o x.i).1 (o x.i).2 (hdO x.z.c0) (hdO x.z.c1) = false) (hc : x.z.c1 = none) (hbm : x.b = false)
    (J : ∀ x', XInv R N 1 x' → x'.i = x.i → x'.z.c1 ≠ none → ∃ p, XKw p 1 9 R N cap o x' ρ w I) : ∃ p, XG p R N cap o x ρ w I := by
  have F := h.facts hin hi
  obtain ⟨i, ⟨W, st, kd, wd, vl, ch, stb, kdb, wdb, vlb, chb, f, n, c0, c1, c2, c3, p0, q0, p1, q1, p2, q2, p3, q3, d0, d1, d2, d3⟩, now, bm, ds, mm, g0, g1, h2, h3⟩ := x
  dsimp only at hin hi ha hb hc F hbm
  subst hc
  subst hbm
  have b := h.b
  obtain ⟨hin1, hi1, ewi, r1, r2, hl, hl16, w0, w1, s0, s1, n0, n1⟩ := F
  have n2 : n < 1000000 := by omega
  have hcm := a3_cases (o i).2
  obtain ⟨e1, e2⟩ := h.bf rfl
  dsimp only at e1 e2
  subst e1
  subst e2
  have hdn : (([] : List Int).length : Int) = n := by have h1 := h.dl; have h2 := h.j.nm; dsimp only [List.length_cons] at h1 h2; omega
  have hmn : (([] : List Int).length : Int) = n := by have h1 := h.dl; dsimp only at h1; omega
  have hmm : ([] : List Int).length ≤ 1000000000 := by omega
  have hdd : ([] : List Int).length ≤ 1000000000 := by omega
  have hwl : (([] : List Int) ++ [1 + a3 (o i).2]).length = ([] : List Int).length + 1 := by simp
  have hwr := hwl.symm
  have hdl : (([] : List Int) ++ [n + 1]).length = ([] : List Int).length + 1 := by simp
  have hdr := hdl.symm
  have hrl : (1 + a3 (o i).2).toNat = (List.replicate (1 + a3 (o i).2).toNat (n + 1)).length := by simp
  have n3 : n + 1 ≤ 1000000 := by omega
  have ewm : IntKind.i64.wrap (1 + ibits .and .i64 (o i).2 3) = 1 + a3 (o i).2 := wrap_id (by show -1000000000 ≤ 1 + a3 (o i).2; omega) (by show 1 + a3 (o i).2 ≤ 1000000000; omega)
  refine ⟨⟨f, c0, none, false, 1, true, 0, w00, r00⟩, ?_⟩
  have hX := hXTw ⟨f, c0, none, false, 1, true, 0, w00, r00⟩
  dsimp only [XG, xwT, xwH, wdH]
  refine sxb hX [.r 14] [] 4000 rfl (by first | exact trivial | simp [conjP]) ?_
  refine sxb hX [.r 14] [.T, .T] 4000 rfl (by simp [conjP, hin, hin1, hi1, hb]) ?_
  simp only [Int.toNat_natCast, ha]
  refine sxb hX [.r 23] [] 4000 rfl (by (simp [-List.getD_eq_getElem?_getD, -List.length_eq_zero_iff, conjP])) ?_
  refine sxb hX [.r 23] [.F] 4000 rfl (by (simp [-List.getD_eq_getElem?_getD, -List.length_eq_zero_iff, conjP, hin, hin1, r1, r2, hl, w0, w1, n0, n2, wrP, Int.toNat_natCast])) ?_
  refine sxb hX [.r 23] [.T] 4000 rfl (by (simp [-List.getD_eq_getElem?_getD, -List.length_eq_zero_iff, conjP, hin, hin1, Int.toNat_natCast] <;> (first | omega | ((repeat' (refine And.intro ?_ ?_)) <;> (first | omega | exact decide_eq_false (by omega) | exact decide_eq_true (by omega)))))) ?_
  (refine ss_raw hX 9 2 rfl rfl fun v => ?_; obtain ⟨pp, h1⟩ := J ⟨i, ⟨W, st, kd, wd, vl, ch, stb, kdb, wdb, vlb, chb, f, n + 1, c0, some ⟨epW (W.getD 7 0), 1, 0, 0, 0, 0, false, List.replicate (1 + a3 (o i).2).toNat (n + 1)⟩, c2, c3, p0, q0, v, q1, p2, q2, p3, q3, d0, n + 1, d2, d3⟩, now, true, [] ++ [n + 1], [] ++ [(1 + a3 (o i).2)], g0, n + 1, h2, h3⟩ ⟨BInv.nx b b.hl b.hw (b.o0) (wok_new r1 (by omega) (by omega) (by omega) (by omega)) (b.o2) (b.o3) (hi := by show 2 * i + 0 + 1 ≤ 10000; omega), by show i + 1 ≤ N; omega, by show i + 1 ≤ 200; omega, (h.m.swap.new rfl).swap, (h.j.swap.new (by omega) (by omega) n0).swap, (fun q => by cases q), by rw [List.length_append, List.length_append]; exact congrArg (· + 1) h.dl, dv_more h.dv hdn, h.ep, fun s hs => (h.q2 s hs).more1, fun s hs => (h.q3 s hs).more1⟩ rfl (fun q => by cases q); refine ss_sub hX (T' := xkT 1 9 N cap ⟨i, ⟨W, st, kd, wd, vl, ch, stb, kdb, wdb, vlb, chb, f, n + 1, c0, some ⟨epW (W.getD 7 0), 1, 0, 0, 0, 0, false, List.replicate (1 + a3 (o i).2).toNat (n + 1)⟩, c2, c3, p0, q0, v, q1, p2, q2, p3, q3, d0, n + 1, d2, d3⟩, now, true, [] ++ [n + 1], [] ++ [(1 + a3 (o i).2)], g0, n + 1, h2, h3⟩) (H' := xwH N o R ⟨i, ⟨W, st, kd, wd, vl, ch, stb, kdb, wdb, vlb, chb, f, n + 1, c0, some ⟨epW (W.getD 7 0), 1, 0, 0, 0, 0, false, List.replicate (1 + a3 (o i).2).toNat (n + 1)⟩, c2, c3, p0, q0, v, q1, p2, q2, p3, q3, d0, n + 1, d2, d3⟩, now, true, [] ++ [n + 1], [] ++ [(1 + a3 (o i).2)], g0, n + 1, h2, h3⟩) [0, 1, 2, 3, 4, 5, 6, 7, 8, 9, 10, 11, 12, 13, 24, 25, 16, 17, 18, 19, 20, 21, 29, 31] rfl rfl rfl rfl ?tt ?hh ?ot ?ok (ss_sw hX (sw_ss (hXTw pp) (cs := []) h1)); (case tt => (exact clhX)); (case hh => simp only [Int.toNat_natCast, ewm]; (exact clhX)); (case ot => (exact clkX)); (case ok => (exact clkX)))
set_option maxHeartbeats 4000000 in
theorem xg1b (h : XInv R N 0 x) (hin : x.i < N) (hi : x.i < 200) (ha : a3 (o x.i).1 = 1) (hb : bkB (o x.i).1 (o x.i).2 (hdO x.z.c0) (hdO x.z.c1) = false) (hc : x.z.c1 = none) (hbm : x.b = true)
    (J : ∀ x', XInv R N 1 x' → x'.i = x.i → x'.z.c1 ≠ none → ∃ p, XKw p 1 9 R N cap o x' ρ w I) : ∃ p, XG p R N cap o x ρ w I := by
  have F := h.facts hin hi
  obtain ⟨i, ⟨W, st, kd, wd, vl, ch, stb, kdb, wdb, vlb, chb, f, n, c0, c1, c2, c3, p0, q0, p1, q1, p2, q2, p3, q3, d0, d1, d2, d3⟩, now, bm, ds, mm, g0, g1, h2, h3⟩ := x
  dsimp only at hin hi ha hb hc F hbm
  subst hc
  subst hbm
  have b := h.b
  obtain ⟨hin1, hi1, ewi, r1, r2, hl, hl16, w0, w1, s0, s1, n0, n1⟩ := F
  have n2 : n < 1000000 := by omega
  have hcm := a3_cases (o i).2
  have hdn : (ds.length : Int) = n := by have h1 := h.dl; have h2 := h.j.nm; dsimp only [List.length_cons] at h1 h2; omega
  have hmn : (mm.length : Int) = n := by have h1 := h.dl; dsimp only at h1; omega
  have hmm : mm.length ≤ 1000000000 := by omega
  have hdd : ds.length ≤ 1000000000 := by omega
  have hwl : (mm ++ [1 + a3 (o i).2]).length = mm.length + 1 := by simp
  have hwr := hwl.symm
  have hdl : (ds ++ [n + 1]).length = ds.length + 1 := by simp
  have hdr := hdl.symm
  have hrl : (1 + a3 (o i).2).toNat = (List.replicate (1 + a3 (o i).2).toNat (n + 1)).length := by simp
  have n3 : n + 1 ≤ 1000000 := by omega
  have ewm : IntKind.i64.wrap (1 + ibits .and .i64 (o i).2 3) = 1 + a3 (o i).2 := wrap_id (by show -1000000000 ≤ 1 + a3 (o i).2; omega) (by show 1 + a3 (o i).2 ≤ 1000000000; omega)
  refine ⟨⟨f, c0, none, false, 1, true, 0, w00, r00⟩, ?_⟩
  have hX := hXTw ⟨f, c0, none, false, 1, true, 0, w00, r00⟩
  dsimp only [XG, xwT, xwH, wdH]
  refine sxb hX [.r 14] [] 4000 rfl (by first | exact trivial | simp [conjP]) ?_
  refine sxb hX [.r 14] [.T, .T] 4000 rfl (by simp [conjP, hin, hin1, hi1, hb]) ?_
  simp only [Int.toNat_natCast, ha]
  refine sxb hX [.r 23] [] 4000 rfl (by (simp [-List.getD_eq_getElem?_getD, -List.length_eq_zero_iff, conjP])) ?_
  refine sxb hX [.r 23] [.F] 4000 rfl (by (simp [-List.getD_eq_getElem?_getD, -List.length_eq_zero_iff, conjP, hin, hin1, r1, r2, hl, w0, w1, n0, n2, wrP, Int.toNat_natCast])) ?_
  refine sxb hX [.r 23] [.T] 4000 rfl (by (simp [-List.getD_eq_getElem?_getD, -List.length_eq_zero_iff, conjP, hin, hin1, Int.toNat_natCast] <;> (first | omega | ((repeat' (refine And.intro ?_ ?_)) <;> (first | omega | exact decide_eq_false (by omega) | exact decide_eq_true (by omega)))))) ?_
  (refine ss_raw hX 9 2 rfl rfl fun v => ?_; obtain ⟨pp, h1⟩ := J ⟨i, ⟨W, st, kd, wd, vl, ch, stb, kdb, wdb, vlb, chb, f, n + 1, c0, some ⟨epW (W.getD 7 0), 1, 0, 0, 0, 0, false, List.replicate (1 + a3 (o i).2).toNat (n + 1)⟩, c2, c3, p0, q0, v, q1, p2, q2, p3, q3, d0, n + 1, d2, d3⟩, now, true, ds ++ [n + 1], mm ++ [(1 + a3 (o i).2)], g0, n + 1, h2, h3⟩ ⟨BInv.nx b b.hl b.hw (b.o0) (wok_new r1 (by omega) (by omega) (by omega) (by omega)) (b.o2) (b.o3) (hi := by show 2 * i + 0 + 1 ≤ 10000; omega), by show i + 1 ≤ N; omega, by show i + 1 ≤ 200; omega, (h.m.swap.new rfl).swap, (h.j.swap.new (by omega) (by omega) n0).swap, (fun q => by cases q), by rw [List.length_append, List.length_append]; exact congrArg (· + 1) h.dl, dv_more h.dv hdn, h.ep, fun s hs => (h.q2 s hs).more1, fun s hs => (h.q3 s hs).more1⟩ rfl (fun q => by cases q); refine ss_sub hX (T' := xkT 1 9 N cap ⟨i, ⟨W, st, kd, wd, vl, ch, stb, kdb, wdb, vlb, chb, f, n + 1, c0, some ⟨epW (W.getD 7 0), 1, 0, 0, 0, 0, false, List.replicate (1 + a3 (o i).2).toNat (n + 1)⟩, c2, c3, p0, q0, v, q1, p2, q2, p3, q3, d0, n + 1, d2, d3⟩, now, true, ds ++ [n + 1], mm ++ [(1 + a3 (o i).2)], g0, n + 1, h2, h3⟩) (H' := xwH N o R ⟨i, ⟨W, st, kd, wd, vl, ch, stb, kdb, wdb, vlb, chb, f, n + 1, c0, some ⟨epW (W.getD 7 0), 1, 0, 0, 0, 0, false, List.replicate (1 + a3 (o i).2).toNat (n + 1)⟩, c2, c3, p0, q0, v, q1, p2, q2, p3, q3, d0, n + 1, d2, d3⟩, now, true, ds ++ [n + 1], mm ++ [(1 + a3 (o i).2)], g0, n + 1, h2, h3⟩) [0, 1, 2, 3, 4, 5, 6, 7, 8, 9, 10, 11, 12, 13, 24, 25, 16, 17, 18, 19, 20, 21, 29, 31] rfl rfl rfl rfl ?tt ?hh ?ot ?ok (ss_sw hX (sw_ss (hXTw pp) (cs := []) h1)); (case tt => (exact clhX)); (case hh => simp only [Int.toNat_natCast, ewm]; (exact clhX)); (case ot => (exact clkX)); (case ok => (exact clkX)))
set_option maxHeartbeats 4000000 in
theorem xo1 (h : XInv R N 0 x) (hin : x.i < N) (hi : x.i < 200) (ha : a3 (o x.i).1 = 1) (hb : bkB (o x.i).1 (o x.i).2 (hdO x.z.c0) (hdO x.z.c1) = false) {ep nx sn fl tm ii : Int} {hd : Bool} {l : List Int} (hc : x.z.c1 = some ⟨ep, nx, sn, fl, tm, ii, hd, l⟩)
    (J : ∀ x', XInv R N 1 x' → x'.i = x.i → x'.z.c1 ≠ none → ∃ p, XKw p 1 9 R N cap o x' ρ w I) : ∃ p, XG p R N cap o x ρ w I := by
  have F := h.facts hin hi
  obtain ⟨i, ⟨W, st, kd, wd, vl, ch, stb, kdb, wdb, vlb, chb, f, n, c0, c1, c2, c3, p0, q0, p1, q1, p2, q2, p3, q3, d0, d1, d2, d3⟩, now, bm, ds, mm, g0, g1, h2, h3⟩ := x
  dsimp only at hin hi ha hb hc F
  subst hc
  have b := h.b
  obtain ⟨hin1, hi1, ewi, r1, r2, hl, hl16, w0, w1, s0, s1, n0, n1⟩ := F
  refine ⟨⟨f, c0, some ⟨ep, nx, sn, fl, tm, ii, hd, l⟩, false, 1, false, 0, w00, r00⟩, ?_⟩
  have hX := hXTw ⟨f, c0, some ⟨ep, nx, sn, fl, tm, ii, hd, l⟩, false, 1, false, 0, w00, r00⟩
  dsimp only [XG, xwT, xwH, wdH]
  refine sxb hX [.r 14] [] 4000 rfl (by first | exact trivial | simp [conjP]) ?_
  refine sxb hX [.r 14] [.T, .T] 4000 rfl (by simp [conjP, hin, hin1, hi1, hb]) ?_
  simp only [Int.toNat_natCast, ha]
  refine sxb hX [.r 23] [] 4000 rfl (by (simp [-List.getD_eq_getElem?_getD, -List.length_eq_zero_iff, conjP])) ?_
  refine sxb hX [.r 23] [.F] 4000 rfl (by (simp [-List.getD_eq_getElem?_getD, -List.length_eq_zero_iff, conjP, getH, HE.so, hin, hin1, wrP, wrE])) ?_
  refine sxb hX [.r 23] [.F] 4000 rfl (by (simp [-List.getD_eq_getElem?_getD, -List.length_eq_zero_iff, conjP, addOP])) ?_
  (obtain ⟨pp, h1⟩ := J ⟨i, ⟨W, st, kd, wd, vl, ch, stb, kdb, wdb, vlb, chb, f, n, c0, some ⟨ep, nx, sn, fl, tm, ii, hd, l⟩, c2, c3, p0, q0, p1, q1, p2, q2, p3, q3, d0, d1, d2, d3⟩, now, bm, ds, mm, g0, g1, h2, h3⟩ ⟨b.mono (by show 2 * i + 0 ≤ 2 * i + 1; omega) (by show 2 * i + 1 ≤ 10000; omega), by show i + 1 ≤ N; omega, by show i + 1 ≤ 200; omega, h.m, h.j, h.bf, h.dl, h.dv, h.ep, h.q2, h.q3⟩ rfl (fun q => by cases q); refine ss_sub hX (T' := xkT 1 9 N cap ⟨i, ⟨W, st, kd, wd, vl, ch, stb, kdb, wdb, vlb, chb, f, n, c0, some ⟨ep, nx, sn, fl, tm, ii, hd, l⟩, c2, c3, p0, q0, p1, q1, p2, q2, p3, q3, d0, d1, d2, d3⟩, now, bm, ds, mm, g0, g1, h2, h3⟩) (H' := xwH N o R ⟨i, ⟨W, st, kd, wd, vl, ch, stb, kdb, wdb, vlb, chb, f, n, c0, some ⟨ep, nx, sn, fl, tm, ii, hd, l⟩, c2, c3, p0, q0, p1, q1, p2, q2, p3, q3, d0, d1, d2, d3⟩, now, bm, ds, mm, g0, g1, h2, h3⟩) [0, 1, 2, 3, 4, 5, 6, 7, 8, 9, 10, 11, 12, 13, 14, 15, 16, 17, 18, 19, 20, 21, 22, 23] rfl rfl rfl rfl ?tt ?hh ?ot ?ok (ss_sw hX (sw_ss (hXTw pp) (cs := []) h1)); (case tt => (exact clhX)); (case hh => (exact clhX)); (case ot => (exact clkX)); (case ok => (exact clkX)))
set_option maxHeartbeats 4000000 in
theorem xg2 (h : XInv R N 0 x) (hin : x.i < N) (hi : x.i < 200) (ha : a3 (o x.i).1 = 2) (hb : bkB (o x.i).1 (o x.i).2 (hdO x.z.c0) (hdO x.z.c1) = false) (hc : x.z.c2 = none)
    (J : ∀ x', XInv R N 1 x' → x'.i = x.i → x'.z.c2 ≠ none → ∃ p, XKw p 2 10 R N cap o x' ρ w I) : ∃ p, XG p R N cap o x ρ w I := by
  have F := h.facts hin hi
  obtain ⟨i, ⟨W, st, kd, wd, vl, ch, stb, kdb, wdb, vlb, chb, f, n, c0, c1, c2, c3, p0, q0, p1, q1, p2, q2, p3, q3, d0, d1, d2, d3⟩, now, bm, ds, mm, g0, g1, h2, h3⟩ := x
  dsimp only at hin hi ha hb hc F
  subst hc

  have b := h.b
  obtain ⟨hin1, hi1, ewi, r1, r2, hl, hl16, w0, w1, s0, s1, n0, n1⟩ := F
  have n2 : n < 1000000 := by omega
  have hcm := a3_cases (o i).2
  refine ⟨⟨f, c0, c1, false, 2, true, 0, w00, r00⟩, ?_⟩
  have hX := hXTw ⟨f, c0, c1, false, 2, true, 0, w00, r00⟩
  dsimp only [XG, xwT, xwH, wdH]
  refine sxb hX [.r 14] [] 4000 rfl (by first | exact trivial | simp [conjP]) ?_
  refine sxb hX [.r 14] [.T, .T] 4000 rfl (by simp [conjP, hin, hin1, hi1, hb]) ?_
  simp only [Int.toNat_natCast, ha]
  refine sxb hX [.r 23] [] 4000 rfl (by (simp [-List.getD_eq_getElem?_getD, -List.length_eq_zero_iff, conjP])) ?_
  refine sxb hX [.r 23] [.F] 4000 rfl (by (simp [-List.getD_eq_getElem?_getD, -List.length_eq_zero_iff, conjP, hin, hin1, r1, r2, hl, w0, w1, rdP, Int.toNat_natCast])) ?_
  refine sxb hX [.r 23] [.F] 4000 rfl (by (simp [-List.getD_eq_getElem?_getD, -List.length_eq_zero_iff, conjP, addOP])) ?_
  (refine ss_raw hX 10 3 rfl rfl fun v => ?_; obtain ⟨pp, h1⟩ := J ⟨i, ⟨W, st, kd, wd, vl, ch, stb, kdb, wdb, vlb, chb, f, n, c0, c1, some ⟨epW (W.getD 7 0), 1, 0, 0, 0, none⟩, c3, p0, q0, p1, q1, p2, v, p3, q3, d0, d1, d2, d3⟩, now, bm, ds, mm, g0, g1, h2, h3⟩ ⟨BInv.nx b b.hl b.hw (b.o0) (b.o1) (rok_new r1) (b.o3) (hi := by show 2 * i + 0 + 1 ≤ 10000; omega), by show i + 1 ≤ N; omega, by show i + 1 ≤ 200; omega, h.m, h.j, h.bf, h.dl, h.dv, h.ep, (fun s hs => by cases hs; exact RQ.new rfl), h.q3⟩ rfl (fun q => by cases q); refine ss_sub hX (T' := xkT 2 10 N cap ⟨i, ⟨W, st, kd, wd, vl, ch, stb, kdb, wdb, vlb, chb, f, n, c0, c1, some ⟨epW (W.getD 7 0), 1, 0, 0, 0, none⟩, c3, p0, q0, p1, q1, p2, v, p3, q3, d0, d1, d2, d3⟩, now, bm, ds, mm, g0, g1, h2, h3⟩) (H' := xwH N o R ⟨i, ⟨W, st, kd, wd, vl, ch, stb, kdb, wdb, vlb, chb, f, n, c0, c1, some ⟨epW (W.getD 7 0), 1, 0, 0, 0, none⟩, c3, p0, q0, p1, q1, p2, v, p3, q3, d0, d1, d2, d3⟩, now, bm, ds, mm, g0, g1, h2, h3⟩) [0, 1, 2, 3, 4, 5, 6, 7, 8, 9, 10, 11, 12, 13, 14, 15, 24, 61, 18, 19, 20, 21, 22, 23] rfl rfl rfl rfl ?tt ?hh ?ot ?ok (ss_sw hX (sw_ss (hXTw pp) (cs := []) h1)); (case tt => (exact clhX)); (case hh => (exact clhX)); (case ot => (exact clkX)); (case ok => (exact clkX)))
set_option maxHeartbeats 4000000 in
theorem xo2 (h : XInv R N 0 x) (hin : x.i < N) (hi : x.i < 200) (ha : a3 (o x.i).1 = 2) (hb : bkB (o x.i).1 (o x.i).2 (hdO x.z.c0) (hdO x.z.c1) = false) {ep nx sn fl tm : Int} {o' : Option (List Int)} (hc : x.z.c2 = some ⟨ep, nx, sn, fl, tm, o'⟩)
    (J : ∀ x', XInv R N 1 x' → x'.i = x.i → x'.z.c2 ≠ none → ∃ p, XKw p 2 10 R N cap o x' ρ w I) : ∃ p, XG p R N cap o x ρ w I := by
  have F := h.facts hin hi
  obtain ⟨i, ⟨W, st, kd, wd, vl, ch, stb, kdb, wdb, vlb, chb, f, n, c0, c1, c2, c3, p0, q0, p1, q1, p2, q2, p3, q3, d0, d1, d2, d3⟩, now, bm, ds, mm, g0, g1, h2, h3⟩ := x
  dsimp only at hin hi ha hb hc F
  subst hc
  have b := h.b
  obtain ⟨hin1, hi1, ewi, r1, r2, hl, hl16, w0, w1, s0, s1, n0, n1⟩ := F
  refine ⟨⟨f, c0, c1, false, 2, false, 0, w00, r00⟩, ?_⟩
  have hX := hXTw ⟨f, c0, c1, false, 2, false, 0, w00, r00⟩
  dsimp only [XG, xwT, xwH, wdH]
  refine sxb hX [.r 14] [] 4000 rfl (by first | exact trivial | simp [conjP]) ?_
  refine sxb hX [.r 14] [.T, .T] 4000 rfl (by simp [conjP, hin, hin1, hi1, hb]) ?_
  simp only [Int.toNat_natCast, ha]
  refine sxb hX [.r 23] [] 4000 rfl (by (simp [-List.getD_eq_getElem?_getD, -List.length_eq_zero_iff, conjP])) ?_
  refine sxb hX [.r 23] [.F] 4000 rfl (by (simp [-List.getD_eq_getElem?_getD, -List.length_eq_zero_iff, conjP, getH, HE.so, hin, hin1, rdP, rdE])) ?_
  refine sxb hX [.r 23] [.F] 4000 rfl (by (simp [-List.getD_eq_getElem?_getD, -List.length_eq_zero_iff, conjP, addOP])) ?_
  (obtain ⟨pp, h1⟩ := J ⟨i, ⟨W, st, kd, wd, vl, ch, stb, kdb, wdb, vlb, chb, f, n, c0, c1, some ⟨ep, nx, sn, fl, tm, o'⟩, c3, p0, q0, p1, q1, p2, q2, p3, q3, d0, d1, d2, d3⟩, now, bm, ds, mm, g0, g1, h2, h3⟩ ⟨b.mono (by show 2 * i + 0 ≤ 2 * i + 1; omega) (by show 2 * i + 1 ≤ 10000; omega), by show i + 1 ≤ N; omega, by show i + 1 ≤ 200; omega, h.m, h.j, h.bf, h.dl, h.dv, h.ep, h.q2, h.q3⟩ rfl (fun q => by cases q); refine ss_sub hX (T' := xkT 2 10 N cap ⟨i, ⟨W, st, kd, wd, vl, ch, stb, kdb, wdb, vlb, chb, f, n, c0, c1, some ⟨ep, nx, sn, fl, tm, o'⟩, c3, p0, q0, p1, q1, p2, q2, p3, q3, d0, d1, d2, d3⟩, now, bm, ds, mm, g0, g1, h2, h3⟩) (H' := xwH N o R ⟨i, ⟨W, st, kd, wd, vl, ch, stb, kdb, wdb, vlb, chb, f, n, c0, c1, some ⟨ep, nx, sn, fl, tm, o'⟩, c3, p0, q0, p1, q1, p2, q2, p3, q3, d0, d1, d2, d3⟩, now, bm, ds, mm, g0, g1, h2, h3⟩) [0, 1, 2, 3, 4, 5, 6, 7, 8, 9, 10, 11, 12, 13, 14, 15, 16, 17, 18, 19, 20, 21, 22, 23] rfl rfl rfl rfl ?tt ?hh ?ot ?ok (ss_sw hX (sw_ss (hXTw pp) (cs := []) h1)); (case tt => (exact clhX)); (case hh => (exact clhX)); (case ot => (exact clkX)); (case ok => (exact clkX)))
set_option maxHeartbeats 4000000 in
theorem xg3 (h : XInv R N 0 x) (hin : x.i < N) (hi : x.i < 200) (ha : a3 (o x.i).1 = 3) (hb : bkB (o x.i).1 (o x.i).2 (hdO x.z.c0) (hdO x.z.c1) = false) (hc : x.z.c3 = none)
    (J : ∀ x', XInv R N 1 x' → x'.i = x.i → x'.z.c3 ≠ none → ∃ p, XKw p 3 11 R N cap o x' ρ w I) : ∃ p, XG p R N cap o x ρ w I := by
  have F := h.facts hin hi
  obtain ⟨i, ⟨W, st, kd, wd, vl, ch, stb, kdb, wdb, vlb, chb, f, n, c0, c1, c2, c3, p0, q0, p1, q1, p2, q2, p3, q3, d0, d1, d2, d3⟩, now, bm, ds, mm, g0, g1, h2, h3⟩ := x
  dsimp only at hin hi ha hb hc F
  subst hc

  have b := h.b
  obtain ⟨hin1, hi1, ewi, r1, r2, hl, hl16, w0, w1, s0, s1, n0, n1⟩ := F
  have n2 : n < 1000000 := by omega
  have hcm := a3_cases (o i).2
  refine ⟨⟨f, c0, c1, false, 3, true, 0, w00, r00⟩, ?_⟩
  have hX := hXTw ⟨f, c0, c1, false, 3, true, 0, w00, r00⟩
  dsimp only [XG, xwT, xwH, wdH]
  refine sxb hX [.r 14] [] 4000 rfl (by first | exact trivial | simp [conjP]) ?_
  refine sxb hX [.r 14] [.T, .T] 4000 rfl (by simp [conjP, hin, hin1, hi1, hb]) ?_
  simp only [Int.toNat_natCast, ha]
  refine sxb hX [.r 23] [] 4000 rfl (by (simp [-List.getD_eq_getElem?_getD, -List.length_eq_zero_iff, conjP])) ?_
  refine sxb hX [.r 23] [.F] 4000 rfl (by (simp [-List.getD_eq_getElem?_getD, -List.length_eq_zero_iff, conjP, hin, hin1, r1, r2, hl, w0, w1, rdP, Int.toNat_natCast])) ?_
  refine sxb hX [.r 23] [.F] 4000 rfl (by (simp [-List.getD_eq_getElem?_getD, -List.length_eq_zero_iff, conjP, addOP])) ?_
  (refine ss_raw hX 11 3 rfl rfl fun v => ?_; obtain ⟨pp, h1⟩ := J ⟨i, ⟨W, st, kd, wd, vl, ch, stb, kdb, wdb, vlb, chb, f, n, c0, c1, c2, some ⟨epW (W.getD 7 0), 1, 0, 0, 0, none⟩, p0, q0, p1, q1, p2, q2, p3, v, d0, d1, d2, d3⟩, now, bm, ds, mm, g0, g1, h2, h3⟩ ⟨BInv.nx b b.hl b.hw (b.o0) (b.o1) (b.o2) (rok_new r1) (hi := by show 2 * i + 0 + 1 ≤ 10000; omega), by show i + 1 ≤ N; omega, by show i + 1 ≤ 200; omega, h.m, h.j, h.bf, h.dl, h.dv, h.ep, h.q2, (fun s hs => by cases hs; exact RQ.new rfl)⟩ rfl (fun q => by cases q); refine ss_sub hX (T' := xkT 3 11 N cap ⟨i, ⟨W, st, kd, wd, vl, ch, stb, kdb, wdb, vlb, chb, f, n, c0, c1, c2, some ⟨epW (W.getD 7 0), 1, 0, 0, 0, none⟩, p0, q0, p1, q1, p2, q2, p3, v, d0, d1, d2, d3⟩, now, bm, ds, mm, g0, g1, h2, h3⟩) (H' := xwH N o R ⟨i, ⟨W, st, kd, wd, vl, ch, stb, kdb, wdb, vlb, chb, f, n, c0, c1, c2, some ⟨epW (W.getD 7 0), 1, 0, 0, 0, none⟩, p0, q0, p1, q1, p2, q2, p3, v, d0, d1, d2, d3⟩, now, bm, ds, mm, g0, g1, h2, h3⟩) [0, 1, 2, 3, 4, 5, 6, 7, 8, 9, 10, 11, 12, 13, 14, 15, 16, 17, 24, 61, 20, 21, 22, 23] rfl rfl rfl rfl ?tt ?hh ?ot ?ok (ss_sw hX (sw_ss (hXTw pp) (cs := []) h1)); (case tt => (exact clhX)); (case hh => (exact clhX)); (case ot => (exact clkX)); (case ok => (exact clkX)))
set_option maxHeartbeats 4000000 in
theorem xo3 (h : XInv R N 0 x) (hin : x.i < N) (hi : x.i < 200) (ha : a3 (o x.i).1 = 3) (hb : bkB (o x.i).1 (o x.i).2 (hdO x.z.c0) (hdO x.z.c1) = false) {ep nx sn fl tm : Int} {o' : Option (List Int)} (hc : x.z.c3 = some ⟨ep, nx, sn, fl, tm, o'⟩)
    (J : ∀ x', XInv R N 1 x' → x'.i = x.i → x'.z.c3 ≠ none → ∃ p, XKw p 3 11 R N cap o x' ρ w I) : ∃ p, XG p R N cap o x ρ w I := by
  have F := h.facts hin hi
  obtain ⟨i, ⟨W, st, kd, wd, vl, ch, stb, kdb, wdb, vlb, chb, f, n, c0, c1, c2, c3, p0, q0, p1, q1, p2, q2, p3, q3, d0, d1, d2, d3⟩, now, bm, ds, mm, g0, g1, h2, h3⟩ := x
  dsimp only at hin hi ha hb hc F
  subst hc
  have b := h.b
  obtain ⟨hin1, hi1, ewi, r1, r2, hl, hl16, w0, w1, s0, s1, n0, n1⟩ := F
  refine ⟨⟨f, c0, c1, false, 3, false, 0, w00, r00⟩, ?_⟩
  have hX := hXTw ⟨f, c0, c1, false, 3, false, 0, w00, r00⟩
  dsimp only [XG, xwT, xwH, wdH]
  refine sxb hX [.r 14] [] 4000 rfl (by first | exact trivial | simp [conjP]) ?_
  refine sxb hX [.r 14] [.T, .T] 4000 rfl (by simp [conjP, hin, hin1, hi1, hb]) ?_
  simp only [Int.toNat_natCast, ha]
  refine sxb hX [.r 23] [] 4000 rfl (by (simp [-List.getD_eq_getElem?_getD, -List.length_eq_zero_iff, conjP])) ?_
  refine sxb hX [.r 23] [.F] 4000 rfl (by (simp [-List.getD_eq_getElem?_getD, -List.length_eq_zero_iff, conjP, getH, HE.so, hin, hin1, rdP, rdE])) ?_
  refine sxb hX [.r 23] [.F] 4000 rfl (by (simp [-List.getD_eq_getElem?_getD, -List.length_eq_zero_iff, conjP, addOP])) ?_
  (obtain ⟨pp, h1⟩ := J ⟨i, ⟨W, st, kd, wd, vl, ch, stb, kdb, wdb, vlb, chb, f, n, c0, c1, c2, some ⟨ep, nx, sn, fl, tm, o'⟩, p0, q0, p1, q1, p2, q2, p3, q3, d0, d1, d2, d3⟩, now, bm, ds, mm, g0, g1, h2, h3⟩ ⟨b.mono (by show 2 * i + 0 ≤ 2 * i + 1; omega) (by show 2 * i + 1 ≤ 10000; omega), by show i + 1 ≤ N; omega, by show i + 1 ≤ 200; omega, h.m, h.j, h.bf, h.dl, h.dv, h.ep, h.q2, h.q3⟩ rfl (fun q => by cases q); refine ss_sub hX (T' := xkT 3 11 N cap ⟨i, ⟨W, st, kd, wd, vl, ch, stb, kdb, wdb, vlb, chb, f, n, c0, c1, c2, some ⟨ep, nx, sn, fl, tm, o'⟩, p0, q0, p1, q1, p2, q2, p3, q3, d0, d1, d2, d3⟩, now, bm, ds, mm, g0, g1, h2, h3⟩) (H' := xwH N o R ⟨i, ⟨W, st, kd, wd, vl, ch, stb, kdb, wdb, vlb, chb, f, n, c0, c1, c2, some ⟨ep, nx, sn, fl, tm, o'⟩, p0, q0, p1, q1, p2, q2, p3, q3, d0, d1, d2, d3⟩, now, bm, ds, mm, g0, g1, h2, h3⟩) [0, 1, 2, 3, 4, 5, 6, 7, 8, 9, 10, 11, 12, 13, 14, 15, 16, 17, 18, 19, 20, 21, 22, 23] rfl rfl rfl rfl ?tt ?hh ?ot ?ok (ss_sw hX (sw_ss (hXTw pp) (cs := []) h1)); (case tt => (exact clhX)); (case hh => (exact clhX)); (case ot => (exact clkX)); (case ok => (exact clkX)))
end
end Go.Proofs.YtmghcelohnlceaaGreatDoor
