/- TopicsOnce: the world of a turn, and what is so. -/
import Derived.Test.YtkkddjchkkaagaaGreatDoorScript
import Derived.Test.YtkkddjchkkaagaaGreatDoorThreeLaw
import Derived.Test.YtkkddjchkkaagaaGreatDoorHas
namespace Go.Proofs.YtkkddjchkkaagaaGreatDoor
open Go Go.Hx
set_option maxRecDepth 8000
structure TP where
  (T : Nat) (R : Int) (sf q : Nat) (li back : Bool) (s : TS) (r : TR)
def ctTl (p : TP) : Nat → Option Hx.Spec
  | 52 => some (busyS p.T p.q p.li)
  | 54 => some (begS p.T p.back)
  | 55 => some (tStS false p.T p.R p.sf p.s p.r)
  | 56 => some (tStS true p.T p.R p.sf p.s p.r)
  | 53 => some (arWordsS)
  | 28 => some (arStoreS)
  | _ => none
theorem ctTl_ok (p : TP) : ∀ f s args H ob V L, ctTl p f = some s → s args H = some (ob, V, L) → AllP ob → Gives Tryz.prog f args H (Is V L) := by
  intro f s args H ob V L h hs ho
  unfold ctTl at h
  split at h
  · simp at h; subst h; exact busyS_ok hs ho
  · simp at h; subst h; exact begS_ok hs ho
  · simp at h; subst h; exact tStS_ok hs ho
  · simp at h; subst h; exact tStS_ok hs ho
  · simp at h; subst h; exact arWordsS_ok hs ho
  · simp at h; subst h; exact arStoreS_ok hs ho
  · simp at h
noncomputable def XTl (p : TP) : Tabs := tabs tr ft xt (fun _ => none) (ctTl p) 0
theorem hXTl (p : TP) : TOk Tryz.prog (XTl p) := ⟨hTE, hFT, (ctTl_ok p), hXT, fun t ks h => by simp [XTl, tabs] at h, mixed⟩
def ctTm : Nat → Option Hx.Spec
  | 53 => some (arWordsS)
  | 59 => some (pureS fkeyS)
  | 29 => some (pureS (placeS entryF))
  | 44 => some (pureS (placeS ctlF))
  | 37 => some (hasS)
  | 60 => some (pureS runpkS)
  | _ => none
theorem ctTm_ok : ∀ f s args H ob V L, ctTm f = some s → s args H = some (ob, V, L) → AllP ob → Gives Tryz.prog f args H (Is V L) := by
  intro f s args H ob V L h hs ho
  unfold ctTm at h
  split at h
  · simp at h; subst h; exact arWordsS_ok hs ho
  · simp at h; subst h; exact pureS_ok ⟨_, hTE⟩ (fkeyS_ok) hs ho
  · simp at h; subst h; exact pureS_ok ⟨_, hTE⟩ (placeS_ok (v := entryF) entry_fn) hs ho
  · simp at h; subst h; exact pureS_ok ⟨_, hTE⟩ (placeS_ok (v := ctlF) ctl_fn) hs ho
  · simp at h; subst h; exact hasS_ok hs ho
  · simp at h; subst h; exact pureS_ok ⟨_, hTE⟩ (runpkS_ok) hs ho
  · simp at h
noncomputable def XTm : Tabs := tabs tr ft xt (fun _ => none) ctTm 0
theorem hXTm : TOk Tryz.prog (XTm) := ⟨hTE, hFT, ctTm_ok, hXT, fun t ks h => by simp [XTm, tabs] at h, mixed⟩
structure AS where
  (i : Nat) (z : Tq)
def onT (N cap : Nat) (x : AS) : List (Nat × SV) := [(1, .slice 0 0 N cap), (5, .tt), (6, .ptr 2 0), (7, .ptr 3 0), (9, .slice 5 0 3 3), (10, .int .i64 (x.i : Int))]
def onK (K : Nat) (N cap : Nat) (x : AS) : List (Nat × SV) := [(1, .slice 0 0 N cap), (5, .tt), (6, .ptr 2 0), (7, .ptr 3 0), (9, .slice 5 0 3 3), (10, .int .i64 (x.i : Int)), (14, .ptr (6 + K) 0)]
def onH (N : Nat) (o : Nat → Int × Int × Bool × Bool) (T : Nat) (R : Int) (x : AS) : List HE := tqH (.obj (.rows N 4 (actR o))) T R x.z []
/-- What is so; h: a turn was done. -/
structure OInv (T : Nat) (R : Int) (N h : Nat) (x : AS) : Prop where
  b : BI T R (2 * (x.i : Int) + 2 * (h : Int)) x.z.W x.z.st
  c0 : okO (TC T R (2 * (x.i : Int) + 2 * (h : Int))) x.z.c0
  c1 : okO (TC T R (2 * (x.i : Int) + 2 * (h : Int))) x.z.c1
  c2 : okO (TC T R (2 * (x.i : Int) + 2 * (h : Int))) x.z.c2
  d : DInv T (sfT T R) x.z.W (cf3 x.z.c0 x.z.c1 x.z.c2)
  hn : x.i + h ≤ N
  hi : x.i + h ≤ 200
theorem OInv.facts {T : Nat} {R : Int} {N h : Nat} {x : AS} (h' : OInv T R N h x) (hin : x.i < N) (hi : x.i < 200) : (x.i : Int) < (N : Int) ∧ (x.i : Int) < 200 ∧ IntKind.i64.wrap ((x.i : Int) + 1) = ((x.i + 1 : Nat) : Int) ∧
    1 ≤ T ∧ T ≤ 4 ∧ 1 ≤ R ∧ R ≤ 8 ∧ x.z.W.length = 11 + 10 * T ∧ 0 ≤ x.z.st ∧ x.z.st < 1000000 ∧ WR x.z.W := by
  have b := h'.b
  have h1 := b.s0
  have h2 := b.s1
  have h3 := h'.hi
  exact ⟨by omega, by omega, by rw [wi64 (by omega) (by omega)]; omega, b.t1, b.t4, b.r1, b.r8, b.hl, b.s0, by omega, b.hw⟩
section
/-- Behind a turn. -/
abbrev OM (p : TP) (T : Nat) (R : Int) (N cap : Nat) (o : Nat → Int × Int × Bool × Bool) (x : AS) (ρ : Nat → Nat × Nat) (w : World) (I : Act → World → Prop) : Prop :=
  SS (hXTl p) (At ρ w) (Is .tt [.obj (.rows N 4 (actR o)), pinE RTV]) ⟨[], [], Tryz.f8, Tryz.f8.ntmps, [.obj (.rows N 4 (actR o)), pinE RTV], contF Tryz.f8 21 [I], onT N cap x, onH N o T R x⟩
abbrev OJ (T : Nat) (R : Int) (N cap : Nat) (o : Nat → Int × Int × Bool × Bool) (x : AS) (ρ : Nat → Nat × Nat) (w : World) (I : Act → World → Prop) : Prop :=
  ∀ x', OInv T R N 1 x' → x'.i = x.i → ∃ p, OM p T R N cap o x' ρ w I
abbrev OG (p : TP) (T : Nat) (R : Int) (N cap : Nat) (o : Nat → Int × Int × Bool × Bool) (x : AS) (ρ : Nat → Nat × Nat) (w : World) (I : Act → World → Prop) : Prop :=
  SS (hXTl p) (At ρ w) (Is .tt [.obj (.rows N 4 (actR o)), pinE RTV]) ⟨[], [], Tryz.f8, Tryz.f8.ntmps, [.obj (.rows N 4 (actR o)), pinE RTV], contF Tryz.f8 8 [I], onT N cap x, onH N o T R x⟩
/-- Where a client has its turn. -/
abbrev OK (p : TP) (K : Nat) (T : Nat) (R : Int) (N cap : Nat) (o : Nat → Int × Int × Bool × Bool) (x : AS) (ρ : Nat → Nat × Nat) (w : World) (I : Act → World → Prop) : Prop :=
  SS (hXTl p) (At ρ w) (Is .tt [.obj (.rows N 4 (actR o)), pinE RTV]) ⟨[], [], Tryz.f8, Tryz.f8.ntmps, [.obj (.rows N 4 (actR o)), pinE RTV], contF Tryz.f8 17 [I], onK K N cap x, onH N o T R x⟩
end
def t00 : TS := newT false false 1
def r00 : TR := ⟨t00, [], 0, 0, 0, false⟩
end Go.Proofs.YtkkddjchkkaagaaGreatDoor

/- TopicsOnce: a control word is Busy from now on, or is not any more. -/
namespace Go.Proofs.YtkkddjchkkaagaaGreatDoor
open Go Go.Hx
set_option maxRecDepth 8000
section
variable {T : Nat} {R : Int} {N cap : Nat} {o : Nat → Int × Int × Bool × Bool} {x : AS} {ρ : Nat → Nat × Nat} {w : World} {I : Act → World → Prop}
set_option maxHeartbeats 4000000 in
theorem tabt (h : OInv T R N 0 x) (hin : x.i < N) (hi : x.i < 200) (ha : ibits .and .i64 (o x.i).1 3 = 3) {qq : Nat} (hq : qq < T) (eq : cMod (T : Int) (o x.i).2.1 = (qq : Int)) (g : liW (x.z.W.getD (cP T qq) 0) = true)
    (J : OJ T R N cap o x ρ w I) : ∃ p, OG p T R N cap o x ρ w I := by
  have F := h.facts hin hi
  have c0h := h.c0
  have c1h := h.c1
  have c2h := h.c2
  have dh := h.d
  obtain ⟨i, ⟨W, st, kd, wd, vl, ch, c0, c1, c2, p0, p1, p2, k0, k1, k2⟩⟩ := x
  dsimp only at hin hi ha eq g F c0h c1h c2h dh
  obtain ⟨hin1, hi1, ewi, t1, t4, r1, r8, hl, s0, s1, hw⟩ := F
  have hr := right_TR t1 t4 r1 r8
  have hb := h.b
  dsimp only at hb
  have fl := fl_r (hw (cP T qq)).1 (hw (cP T qq)).2
  have cl_ := cP_lt' hl hq
  have hl5 : W.length ≤ 5000 := by omega
  refine ⟨⟨T, R, 0, qq, true, false, t00, r00⟩, ?_⟩
  have hX := hXTl ⟨T, R, 0, qq, true, false, t00, r00⟩
  dsimp only [OG, onT, onH, tqH]
  refine sxb hX [.r 21] [] 4000 rfl (by (simp [-List.getD_eq_getElem?_getD, -List.length_eq_zero_iff, conjP])) ?_
  refine sxb hX [.r 21] [.T] 4000 rfl (by (simp [-List.getD_eq_getElem?_getD, -List.length_eq_zero_iff, conjP, addOP, hin1])) ?_
  refine sxb hX [.r 21] [.T] 4000 rfl (by (simp [-List.getD_eq_getElem?_getD, -List.length_eq_zero_iff, conjP, hin, hin1, hi1, Int.toNat_natCast])) ?_
  refine sxb hX [.r 21] [.T] 4000 rfl (by (simp [-List.getD_eq_getElem?_getD, -List.length_eq_zero_iff, conjP, getH, HE.so, ha, t1, t4, r1, r8, hl, hw, hq, eq, g, Int.toNat_natCast] <;> (first | omega | ((repeat' (refine And.intro ?_ ?_)) <;> (first | omega | exact decide_eq_false (by omega) | exact decide_eq_true (by omega)))))) ?_
  refine sxb hX [.r 21] [.T] 4000 rfl (by (simp [-List.getD_eq_getElem?_getD, -List.length_eq_zero_iff, conjP, hl, s0] <;> (first | omega | ((repeat' (refine And.intro ?_ ?_)) <;> (first | omega | exact decide_eq_false (by omega) | exact decide_eq_true (by omega)))))) ?_
  (obtain ⟨pp, h1⟩ := J ⟨i, ⟨(W.set (cP T qq) (flW (W.getD (cP T qq) 0))), st + 1, 2, (cP T qq : Int), (flW (W.getD (cP T qq) 0)), true, c0, c1, c2, p0, p1, p2, k0, k1, k2⟩⟩ ⟨(bi_set hb (by omega) fl.1 fl.2 (fun q => absurd q (by unfold cP; omega))).mono (by dsimp only; omega) (by dsimp only; omega), okO_mono (by dsimp only; omega) c0h, okO_mono (by dsimp only; omega) c1h, okO_mono (by dsimp only; omega) c2h, dh.ctl hq (fl_li (hw (cP T qq)).1 (hw (cP T qq)).2), by dsimp only; omega, by dsimp only; omega⟩ rfl; refine ss_sub hX (T' := onT N cap ⟨i, ⟨(W.set (cP T qq) (flW (W.getD (cP T qq) 0))), st + 1, 2, (cP T qq : Int), (flW (W.getD (cP T qq) 0)), true, c0, c1, c2, p0, p1, p2, k0, k1, k2⟩⟩) (H' := onH N o T R ⟨i, ⟨(W.set (cP T qq) (flW (W.getD (cP T qq) 0))), st + 1, 2, (cP T qq : Int), (flW (W.getD (cP T qq) 0)), true, c0, c1, c2, p0, p1, p2, k0, k1, k2⟩⟩) [0, 1, 2, 3, 4, 5, 6, 7, 8, 9, 10, 11, 12, 13, 14] rfl rfl rfl rfl ?tt ?hh ?ot ?ok (ss_sw hX (sw_ss (hXTl pp) (cs := []) h1)); (case tt => (exact clhT)); (case hh => (try simp only [if_true, Int.toNat_natCast]); (exact clhT)); (case ot => (exact clkT)); (case ok => (exact clkT)))
set_option maxHeartbeats 4000000 in
theorem tabf (h : OInv T R N 0 x) (hin : x.i < N) (hi : x.i < 200) (ha : ibits .and .i64 (o x.i).1 3 = 3) {qq : Nat} (hq : qq < T) (eq : cMod (T : Int) (o x.i).2.1 = (qq : Int)) (g : liW (x.z.W.getD (cP T qq) 0) = false)
    (J : OJ T R N cap o x ρ w I) : ∃ p, OG p T R N cap o x ρ w I := by
  have F := h.facts hin hi
  have c0h := h.c0
  have c1h := h.c1
  have c2h := h.c2
  have dh := h.d
  obtain ⟨i, ⟨W, st, kd, wd, vl, ch, c0, c1, c2, p0, p1, p2, k0, k1, k2⟩⟩ := x
  dsimp only at hin hi ha eq g F c0h c1h c2h dh
  obtain ⟨hin1, hi1, ewi, t1, t4, r1, r8, hl, s0, s1, hw⟩ := F
  have hr := right_TR t1 t4 r1 r8
  have hb := h.b
  dsimp only at hb
  have fl := fl_r (hw (cP T qq)).1 (hw (cP T qq)).2
  have cl_ := cP_lt' hl hq
  have hl5 : W.length ≤ 5000 := by omega
  refine ⟨⟨T, R, 0, qq, false, false, t00, r00⟩, ?_⟩
  have hX := hXTl ⟨T, R, 0, qq, false, false, t00, r00⟩
  dsimp only [OG, onT, onH, tqH]
  refine sxb hX [.r 21] [] 4000 rfl (by (simp [-List.getD_eq_getElem?_getD, -List.length_eq_zero_iff, conjP])) ?_
  refine sxb hX [.r 21] [.T] 4000 rfl (by (simp [-List.getD_eq_getElem?_getD, -List.length_eq_zero_iff, conjP, addOP, hin1])) ?_
  refine sxb hX [.r 21] [.T] 4000 rfl (by (simp [-List.getD_eq_getElem?_getD, -List.length_eq_zero_iff, conjP, hin, hin1, hi1, Int.toNat_natCast])) ?_
  refine sxb hX [.r 21] [.T] 4000 rfl (by (simp [-List.getD_eq_getElem?_getD, -List.length_eq_zero_iff, conjP, getH, HE.so, ha, t1, t4, r1, r8, hl, hw, hq, eq, g, Int.toNat_natCast] <;> (first | omega | ((repeat' (refine And.intro ?_ ?_)) <;> (first | omega | exact decide_eq_false (by omega) | exact decide_eq_true (by omega)))))) ?_
  refine sxb hX [.r 21] [.F] 4000 rfl (by (simp [-List.getD_eq_getElem?_getD, -List.length_eq_zero_iff, conjP, addOP])) ?_
  (obtain ⟨pp, h1⟩ := J ⟨i, ⟨W, st, kd, wd, vl, ch, c0, c1, c2, p0, p1, p2, k0, k1, k2⟩⟩ ⟨hb.mono (by dsimp only; omega) (by dsimp only; omega), okO_mono (by dsimp only; omega) c0h, okO_mono (by dsimp only; omega) c1h, okO_mono (by dsimp only; omega) c2h, dh, by dsimp only; omega, by dsimp only; omega⟩ rfl; refine ss_sub hX (T' := onT N cap ⟨i, ⟨W, st, kd, wd, vl, ch, c0, c1, c2, p0, p1, p2, k0, k1, k2⟩⟩) (H' := onH N o T R ⟨i, ⟨W, st, kd, wd, vl, ch, c0, c1, c2, p0, p1, p2, k0, k1, k2⟩⟩) [0, 1, 2, 3, 4, 5, 6, 7, 8, 9, 10, 11, 12, 13, 14] rfl rfl rfl rfl ?tt ?hh ?ot ?ok (ss_sw hX (sw_ss (hXTl pp) (cs := []) h1)); (case tt => (exact clhT)); (case hh => (try simp only [Int.toNat_natCast]); (exact clhT)); (case ot => (exact clkT)); (case ok => (exact clkT)))
end
end Go.Proofs.YtkkddjchkkaagaaGreatDoor
