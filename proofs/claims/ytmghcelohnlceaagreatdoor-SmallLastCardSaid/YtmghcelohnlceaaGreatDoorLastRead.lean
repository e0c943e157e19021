/- SmallLast: at last somebody reads. -/
import Derived.Test.YtmghcelohnlceaaGreatDoorLastHead
namespace Go.Proofs.YtmghcelohnlceaaGreatDoor
open Go Go.Hx
set_option maxRecDepth 8000
def ctLe (q : Nat) (r : RR) : Nat → Option Hx.Spec
  | 22 => some (pureS ctlKS)
  | 41 => some (pureS ctlKS)
  | 91 => some (pureS rightS)
  | 36 => some (pureS runpkS)
  | 14 => some (rStH q r)
  | 17 => some (top1S)
  | _ => none
theorem ctLe_ok (q : Nat) (r : RR) : ∀ f s args H ob V L, ctLe q r f = some s → s args H = some (ob, V, L) → AllP ob → Gives Tryz.prog f args H (Is V L) := by
  intro f s args H ob V L h hs ho
  unfold ctLe at h
  split at h
  · simp at h; subst h; exact pureS_ok ⟨_, hTE⟩ (ctlKS_ok) hs ho
  · simp at h; subst h; exact pureS_ok ⟨_, hTE⟩ (rctlKS_ok) hs ho
  · simp at h; subst h; exact pureS_ok ⟨_, hTE⟩ (rightS_ok right91) hs ho
  · simp at h; subst h; exact pureS_ok ⟨_, hTE⟩ (runpkS_ok) hs ho
  · simp at h; subst h; exact rStH_ok hs ho
  · simp at h; subst h; exact top1S_ok hs ho
  · simp at h
noncomputable def XLe (q : Nat) (r : RR) : Tabs := tabs tr ft xt (fun _ => none) (ctLe q r) 0
theorem hXLe (q : Nat) (r : RR) : TOk Tryz.prog (XLe q r) := ⟨hTE, hFT, (ctLe_ok q r), hXT, fun t ks h => by simp [XLe, tabs] at h, mixed⟩
/-- The words of a buffer. -/
def rbL (W : List Int) (q : Int) (k : Nat) : List Int := (List.range k).map fun (i : Nat) => W.getD (q + (i : Int)).toNat 0
theorem rbL_len {W : List Int} {q : Int} {k : Nat} : (rbL W q k).length = k := by simp [rbL]
theorem rbL_succ {W : List Int} {q : Int} {k : Nat} : rbL W q (k + 1) = rbL W q k ++ [W.getD (q + (k : Int)).toNat 0] := by simp [rbL, List.range_succ]
theorem rbL_get {W : List Int} {q : Int} {k j : Nat} (h : j < k) : (rbL W q k).getD j 0 = W.getD (q + (j : Int)).toNat 0 := by
  simp [rbL, List.getD_eq_getElem?_getD, List.getElem?_map, List.getElem?_range h]
abbrev bfP (W : List Int) : Int := 8 + 4 * (geW (W.getD 7 0) % 2)
structure L3 where
  (j : Nat) (z : Wd) (ph : Nat) (tm : Int)
def l3T (bm : Bool) (mm : List Int) (now : Int) (x : L3) : List (Nat × SV) := [(5, .tt), (6, .ptr 2 0), (7, .int .u64 now), (8, mnV bm 20 mm), (13, .ptr 21 0), (14, .int .i64 (x.j : Int))]
def l3E (R : Int) (W : List Int) (x : L3) : List HE := match x.ph with
  | 0 => [.obj (rdO R (epW (W.getD 7 0)) 1 0 0 0 0 .niliface .nilslice), .absent]
  | 1 => [.obj (rdO R (epW (W.getD 7 0)) 3 (W.getD 7 0) 0 0 x.tm .niliface .nilslice), .absent]
  | 2 => [.obj (rdO R (epW (W.getD 7 0)) 3 (W.getD 7 0) 0 0 x.tm .niliface (.sbuf 22 1 0 (rbL W (bfP W) (x.j - 1)).length)), wdE (rbL W (bfP W) (x.j - 1))]
  | 3 => [.obj (rdO R (epW (W.getD 7 0)) 4 (W.getD 7 0) 0 0 x.tm .niliface (.sbuf 22 1 0 (rbL W (bfP W) 4).length)), wdE (rbL W (bfP W) 4)]
  | 4 => [.obj (rdO R (epW (W.getD 7 0)) 0 (W.getD 7 0) 0 0 x.tm .niliface (.sbuf 22 1 0 (rbL W (bfP W) 4).length)), wdE (rbL W (bfP W) 4)]
  | _ => [.obj (rdO R (epW (W.getD 7 0)) 0 (W.getD 7 0) 0 0 x.tm (erO 20) .nilslice), .absent]
def l3H (bb : Bool) (N : Nat) (o : Nat → Int × Int) (R : Int) (bm : Bool) (mm : List Int) (x : L3) : List HE := wdH (scE bb N o) R x.z (mnE bm mm :: l3E R x.z.W x)
structure L3Inv (R : Int) (W : List Int) (x : L3) : Prop where
  r1 : 1 ≤ R
  r2 : R ≤ 8
  hl : W.length = 21
  hw : ∀ j, 0 ≤ W.getD j 0 ∧ W.getD j 0 < 18446744073709551616
  li : liW (W.getD 7 0) = true
  eW : x.z.W = W
  s0 : 0 ≤ x.z.st
  s1 : x.z.st ≤ 10000 + (x.j : Int)
  j6 : x.j ≤ 6
  p : (x.ph = 0 ∧ x.j = 0) ∨ (x.ph = 1 ∧ x.j = 1 ∧ geW (W.getD 7 0) ≠ 0) ∨ (x.ph = 2 ∧ 2 ≤ x.j ∧ x.j ≤ 4 ∧ geW (W.getD 7 0) ≠ 0) ∨ (x.ph = 3 ∧ x.j = 5 ∧ geW (W.getD 7 0) ≠ 0) ∨ (x.ph = 4 ∧ x.j = 6 ∧ geW (W.getD 7 0) ≠ 0) ∨ (x.ph = 5 ∧ 1 ≤ x.j ∧ geW (W.getD 7 0) = 0)
section
variable {bb : Bool} {R now : Int} {N : Nat} {o : Nat → Int × Int} {bm : Bool} {mm W0 : List Int} {x : L3} {ρ : Nat → Nat × Nat} {w : World} {I : Act → World → Prop}
abbrev RJ (q : Nat) (r : RR) (bb : Bool) (R : Int) (N : Nat) (o : Nat → Int × Int) (bm : Bool) (mm W0 : List Int) (now : Int) (x : L3) (ρ : Nat → Nat × Nat) (w : World) (I : Act → World → Prop) : Prop :=
  ∀ x', L3Inv R W0 x' → x'.j = x.j + 1 → ∀ cs T H, Sub (FEnv Tryz.prog (XLe q r).TE (hXLe q r).te Tryz.f6 Tryz.f6.ntmps [scE bb N o, pinE RTV] (Is .tt [scE bb N o, pinE RTV]) ρ w) T H (l3T bm mm now x') (l3H bb N o R bm mm x') →
    SS (hXLe q r) (At ρ w) (Is .tt [scE bb N o, pinE RTV]) ⟨cs, [], Tryz.f6, Tryz.f6.ntmps, [scE bb N o, pinE RTV], downLp (contF Tryz.f6 24 [I]), T, H⟩
abbrev RG (q : Nat) (r : RR) (bb : Bool) (R : Int) (N : Nat) (o : Nat → Int × Int) (bm : Bool) (mm : List Int) (now : Int) (x : L3) (ρ : Nat → Nat × Nat) (w : World) (I : Act → World → Prop) : Prop :=
  SS (hXLe q r) (At ρ w) (Is .tt [scE bb N o, pinE RTV]) ⟨[], [], Tryz.f6, Tryz.f6.ntmps, [scE bb N o, pinE RTV], contF Tryz.f6 24 [I], l3T bm mm now x, l3H bb N o R bm mm x⟩

set_option maxHeartbeats 4000000 in
theorem rd0 (h : L3Inv R W0 x) (hp : x.ph = 0) (hg : geW (W0.getD 7 0) ≠ 0) (J : ∀ q r, RJ q r bb R N o bm mm W0 now x ρ w I) : ∃ q r, RG q r bb R N o bm mm now x ρ w I := by
  obtain ⟨j, ⟨W, st, kd, wd, vl, ch, stb, kdb, wdb, vlb, chb, f, n, c0, c1, c2, c3, p0, q0, p1, q1, p2, q2, p3, q3, d0, d1, d2, d3⟩, ph, tm⟩ := x
  obtain rfl : W = W0 := h.eW
  dsimp only at hp 
  subst hp
  have r1 := h.r1
  have r2 := h.r2
  have hl : W.length = 21 := h.hl
  have hl16 : 16 ≤ W.length := by omega
  have w0 : 0 ≤ W.getD 7 0 := (h.hw 7).1
  have w1 : W.getD 7 0 < 18446744073709551616 := (h.hw 7).2
  have li := h.li
  have s0 : 0 ≤ st := h.s0
  have s2 : st ≤ 10000 + (j : Int) := h.s1
  have j6 : j ≤ 6 := h.j6
  have hp := h.p
  dsimp only at hp
  have s1 : st < 1000000 := by omega
  have hj1 : (j : Int) < 6 := by omega
  have ewj : IntKind.i64.wrap ((j : Int) + 1) = ((j + 1 : Nat) : Int) := by rw [wi64 (by omega) (by omega)]; omega
  have ok : ROk R ⟨(epW (W.getD 7 0)), 1, 0, 0, 0, none⟩ := rok_new r1
  obtain ⟨r, er⟩ : ∃ r : RR, r = ⟨3, (W.getD 7 0), 0, st + 1, none, 7, (W.getD 7 0), 0, 0⟩ := ⟨_, rfl⟩
  have hr : rStep R ⟨(epW (W.getD 7 0)), 1, 0, 0, 0, none⟩ W st = r := by
    subst er
    simp [-List.getD_eq_getElem?_getD, rStep, li, hg]
  have e0 : r.k = 0 := by rw [er]
  refine ⟨0, r, ?_⟩
  have hX := hXLe 0 r
  dsimp only [RG, l3T, l3H, l3E, wdH]
  refine sx hX [] 4000 rfl (by (simp [-List.getD_eq_getElem?_getD, -List.length_eq_zero_iff, conjP])) ?_
  refine sx hX [.T] 4000 rfl (by (simp [-List.getD_eq_getElem?_getD, -List.length_eq_zero_iff, conjP, hj1, r1, r2, hl, w0, w1, s0, s1, ok, hr, e0])) ?_
  (subst er; refine J _ _ ⟨j + 1, ⟨W, st + 1, 1, 7, (W.getD 7 0), false, stb, kdb, wdb, vlb, chb, f, n, c0, c1, c2, c3, p0, q0, p1, q1, p2, q2, p3, q3, d0, d1, d2, d3⟩, 1, st + 1⟩ ?iv rfl _ _ _ (sub_of [0, 1, 2, 3, 4, 5, 6, 7, 8, 9, 10, 11, 12, 13, 14, 15, 16, 17, 18, 19, 20, 21, 61] rfl rfl rfl (by cases bb <;> cases bm <;> rfl) ?tt ?hh ?ot ?ok); (case tt => simp only [ewj]; (exact clhA)); (case hh => (exact clhA)); (case ot => (exact clkA)); (case ok => (exact clkA)); (case iv => exact ⟨r1, r2, hl, h.hw, li, rfl, by (try dsimp only); omega, by (try dsimp only); omega, by (try dsimp only); omega, by (try dsimp only); omega⟩))
set_option maxHeartbeats 4000000 in
theorem rd0e (h : L3Inv R W0 x) (hp : x.ph = 0) (hg : geW (W0.getD 7 0) = 0) (J : ∀ q r, RJ q r bb R N o bm mm W0 now x ρ w I) : ∃ q r, RG q r bb R N o bm mm now x ρ w I := by
  obtain ⟨j, ⟨W, st, kd, wd, vl, ch, stb, kdb, wdb, vlb, chb, f, n, c0, c1, c2, c3, p0, q0, p1, q1, p2, q2, p3, q3, d0, d1, d2, d3⟩, ph, tm⟩ := x
  obtain rfl : W = W0 := h.eW
  dsimp only at hp 
  subst hp
  have r1 := h.r1
  have r2 := h.r2
  have hl : W.length = 21 := h.hl
  have hl16 : 16 ≤ W.length := by omega
  have w0 : 0 ≤ W.getD 7 0 := (h.hw 7).1
  have w1 : W.getD 7 0 < 18446744073709551616 := (h.hw 7).2
  have li := h.li
  have s0 : 0 ≤ st := h.s0
  have s2 : st ≤ 10000 + (j : Int) := h.s1
  have j6 : j ≤ 6 := h.j6
  have hp := h.p
  dsimp only at hp
  have s1 : st < 1000000 := by omega
  have hj1 : (j : Int) < 6 := by omega
  have ewj : IntKind.i64.wrap ((j : Int) + 1) = ((j + 1 : Nat) : Int) := by rw [wi64 (by omega) (by omega)]; omega
  have ok : ROk R ⟨(epW (W.getD 7 0)), 1, 0, 0, 0, none⟩ := rok_new r1
  obtain ⟨r, er⟩ : ∃ r : RR, r = ⟨0, (W.getD 7 0), 0, st + 1, none, 7, (W.getD 7 0), 1, 20⟩ := ⟨_, rfl⟩
  have hr : rStep R ⟨(epW (W.getD 7 0)), 1, 0, 0, 0, none⟩ W st = r := by
    subst er
    simp [-List.getD_eq_getElem?_getD, rStep, li, hg]
  have e0 : r.k = 1 := by rw [er]
  refine ⟨1, r, ?_⟩
  have hX := hXLe 1 r
  dsimp only [RG, l3T, l3H, l3E, wdH]
  refine sx hX [] 4000 rfl (by (simp [-List.getD_eq_getElem?_getD, -List.length_eq_zero_iff, conjP])) ?_
  refine sx hX [.T] 4000 rfl (by (simp [-List.getD_eq_getElem?_getD, -List.length_eq_zero_iff, conjP, hj1, r1, r2, hl, w0, w1, s0, s1, ok, hr, e0])) ?_
  (subst er; refine J _ _ ⟨j + 1, ⟨W, st + 1, 1, 7, (W.getD 7 0), false, stb, kdb, wdb, vlb, chb, f, n, c0, c1, c2, c3, p0, q0, p1, q1, p2, q2, p3, q3, d0, d1, d2, d3⟩, 5, st + 1⟩ ?iv rfl _ _ _ (sub_of [0, 1, 2, 3, 4, 5, 6, 7, 8, 9, 10, 11, 12, 13, 14, 15, 16, 17, 18, 19, 20, 21, 61] rfl rfl rfl (by cases bb <;> cases bm <;> rfl) ?tt ?hh ?ot ?ok); (case tt => simp only [ewj]; (exact clhA)); (case hh => (exact clhA)); (case ot => (exact clkA)); (case ok => (exact clkA)); (case iv => exact ⟨r1, r2, hl, h.hw, li, rfl, by (try dsimp only); omega, by (try dsimp only); omega, by (try dsimp only); omega, by (try dsimp only); omega⟩))
set_option maxHeartbeats 4000000 in
theorem rd1 (h : L3Inv R W0 x) (hp : x.ph = 1) (hg : geW (W0.getD 7 0) ≠ 0) (J : ∀ q r, RJ q r bb R N o bm mm W0 now x ρ w I) : ∃ q r, RG q r bb R N o bm mm now x ρ w I := by
  obtain ⟨j, ⟨W, st, kd, wd, vl, ch, stb, kdb, wdb, vlb, chb, f, n, c0, c1, c2, c3, p0, q0, p1, q1, p2, q2, p3, q3, d0, d1, d2, d3⟩, ph, tm⟩ := x
  obtain rfl : W = W0 := h.eW
  dsimp only at hp 
  subst hp
  have r1 := h.r1
  have r2 := h.r2
  have hl : W.length = 21 := h.hl
  have hl16 : 16 ≤ W.length := by omega
  have w0 : 0 ≤ W.getD 7 0 := (h.hw 7).1
  have w1 : W.getD 7 0 < 18446744073709551616 := (h.hw 7).2
  have li := h.li
  have s0 : 0 ≤ st := h.s0
  have s2 : st ≤ 10000 + (j : Int) := h.s1
  have j6 : j ≤ 6 := h.j6
  have hp := h.p
  dsimp only at hp
  have s1 : st < 1000000 := by omega
  have hj1 : (j : Int) < 6 := by omega
  have ewj : IntKind.i64.wrap ((j : Int) + 1) = ((j + 1 : Nat) : Int) := by rw [wi64 (by omega) (by omega)]; omega
  have ok : ROk R ⟨(epW (W.getD 7 0)), 3, (W.getD 7 0), 0, tm, none⟩ := ⟨by simp, by show (0 : Int) ≤ 0; decide, by show (0 : Int) < R; omega, w0, w1, fun _ => ⟨li, rfl, hg⟩, fun _ => by show (0 : Nat) < 4; decide, fun q => absurd (show (3 : Int) = 4 from q) (by decide)⟩
  have hj : j = 1 := by omega
  have hsj : rbL W (bfP W) (j + 1 - 1) = [W.getD (bfP W).toNat 0] := by subst hj; simp [rbL]
  have hsjr := hsj.symm
  have hsl : (rbL W (bfP W) (j + 1 - 1)).length = 1 := by rw [hsj]; rfl
  have hslr := hsl.symm
  obtain ⟨r, er⟩ : ∃ r : RR, r = ⟨3, (W.getD 7 0), 0, tm, some [W.getD (bfP W).toNat 0], bfP W, W.getD (bfP W).toNat 0, 3, 0⟩ := ⟨_, rfl⟩
  have hr : rStep R ⟨(epW (W.getD 7 0)), 3, (W.getD 7 0), 0, tm, none⟩ W st = r := by
    subst er
    simp [-List.getD_eq_getElem?_getD, rStep, rPos, lst, bfP]
  have e0 : r.k = 3 := by rw [er]
  refine ⟨3, r, ?_⟩
  have hX := hXLe 3 r
  dsimp only [RG, l3T, l3H, l3E, wdH]
  refine sx hX [] 4000 rfl (by (simp [-List.getD_eq_getElem?_getD, -List.length_eq_zero_iff, conjP])) ?_
  refine sx hX [.T] 4000 rfl (by (simp [-List.getD_eq_getElem?_getD, -List.length_eq_zero_iff, conjP, hj1, r1, r2, hl, w0, w1, s0, s1, ok, hr, e0])) ?_
  (subst er; refine J _ _ ⟨j + 1, ⟨W, st + 1, 1, (bfP W), (W.getD (bfP W).toNat 0), false, stb, kdb, wdb, vlb, chb, f, n, c0, c1, c2, c3, p0, q0, p1, q1, p2, q2, p3, q3, d0, d1, d2, d3⟩, 2, tm⟩ ?iv rfl _ _ _ (sub_of [0, 1, 2, 3, 4, 5, 6, 7, 8, 9, 10, 11, 12, 13, 14, 15, 16, 17, 18, 19, 20, 21, 23] rfl rfl rfl (by cases bb <;> cases bm <;> rfl) ?tt ?hh ?ot ?ok); (case tt => simp only [ewj]; (exact clhA)); (case hh => (exact clhA)); (case ot => (exact clkA)); (case ok => (exact clkA)); (case iv => exact ⟨r1, r2, hl, h.hw, li, rfl, by (try dsimp only); omega, by (try dsimp only); omega, by (try dsimp only); omega, by (try dsimp only); omega⟩))
set_option maxHeartbeats 4000000 in
theorem rd2a (h : L3Inv R W0 x) (hp : x.ph = 2) (hg : geW (W0.getD 7 0) ≠ 0) (hj : x.j < 4) (J : ∀ q r, RJ q r bb R N o bm mm W0 now x ρ w I) : ∃ q r, RG q r bb R N o bm mm now x ρ w I := by
  obtain ⟨j, ⟨W, st, kd, wd, vl, ch, stb, kdb, wdb, vlb, chb, f, n, c0, c1, c2, c3, p0, q0, p1, q1, p2, q2, p3, q3, d0, d1, d2, d3⟩, ph, tm⟩ := x
  obtain rfl : W = W0 := h.eW
  dsimp only at hp hj
  subst hp
  have r1 := h.r1
  have r2 := h.r2
  have hl : W.length = 21 := h.hl
  have hl16 : 16 ≤ W.length := by omega
  have w0 : 0 ≤ W.getD 7 0 := (h.hw 7).1
  have w1 : W.getD 7 0 < 18446744073709551616 := (h.hw 7).2
  have li := h.li
  have s0 : 0 ≤ st := h.s0
  have s2 : st ≤ 10000 + (j : Int) := h.s1
  have j6 : j ≤ 6 := h.j6
  have hp := h.p
  dsimp only at hp
  have s1 : st < 1000000 := by omega
  have hj1 : (j : Int) < 6 := by omega
  have ewj : IntKind.i64.wrap ((j : Int) + 1) = ((j + 1 : Nat) : Int) := by rw [wi64 (by omega) (by omega)]; omega
  have hlj : (rbL W (bfP W) (j - 1)).length = j - 1 := rbL_len
  have ok : ROk R ⟨(epW (W.getD 7 0)), 3, (W.getD 7 0), 0, tm, some (rbL W (bfP W) (j - 1))⟩ := ⟨by simp, by show (0 : Int) ≤ 0; decide, by show (0 : Int) < R; omega, w0, w1, fun _ => ⟨li, rfl, hg⟩, fun _ => by show (rbL W (bfP W) (j - 1)).length < 4; omega, fun q => absurd (show (3 : Int) = 4 from q) (by decide)⟩
  have hsj0 : rbL W (bfP W) (j + 1 - 1) = (rbL W (bfP W) (j - 1)) ++ [W.getD (bfP W + (((rbL W (bfP W) (j - 1)).length : Nat) : Int)).toNat 0] := by
    obtain ⟨k, rfl⟩ : ∃ k, j = k + 1 := ⟨j - 1, by omega⟩
    simp only [Nat.add_sub_cancel, rbL_len]
    exact rbL_succ
  have hsj0r := hsj0.symm
  have hsj : (rbL W (bfP W) (j + 1 - 1)) = (rbL W (bfP W) (j - 1)) ++ [W.getD (bfP W + (((rbL W (bfP W) (j - 1)).length : Nat) : Int)).toNat 0] := hsj0
  have hsjr := hsj.symm
  have hsl : (rbL W (bfP W) (j + 1 - 1)).length = (rbL W (bfP W) (j - 1)).length + 1 := by rw [hsj]; simp
  have hslr := hsl.symm
  obtain ⟨r, er⟩ : ∃ r : RR, r = ⟨3, (W.getD 7 0), 0, tm, some ((rbL W (bfP W) (j - 1)) ++ [W.getD (bfP W + (((rbL W (bfP W) (j - 1)).length : Nat) : Int)).toNat 0]), bfP W + (((rbL W (bfP W) (j - 1)).length : Nat) : Int), W.getD (bfP W + (((rbL W (bfP W) (j - 1)).length : Nat) : Int)).toNat 0, 3, 0⟩ := ⟨_, rfl⟩
  have hr : rStep R ⟨(epW (W.getD 7 0)), 3, (W.getD 7 0), 0, tm, some (rbL W (bfP W) (j - 1))⟩ W st = r := by
    subst er
    have : ¬ ((rbL W (bfP W) (j - 1)).length + 1 = 4) := by omega
    simp [-List.getD_eq_getElem?_getD, rStep, rPos, lst, bfP, this]
  have e0 : r.k = 3 := by rw [er]
  refine ⟨3, r, ?_⟩
  have hX := hXLe 3 r
  dsimp only [RG, l3T, l3H, l3E, wdH]
  refine sx hX [] 4000 rfl (by (simp [-List.getD_eq_getElem?_getD, -List.length_eq_zero_iff, conjP])) ?_
  refine sx hX [.T] 4000 rfl (by (simp [-List.getD_eq_getElem?_getD, -List.length_eq_zero_iff, conjP, hj1, r1, r2, hl, w0, w1, s0, s1, ok, hr, e0])) ?_
  (subst er; refine J _ _ ⟨j + 1, ⟨W, st + 1, 1, (bfP W + (((rbL W (bfP W) (j - 1)).length : Nat) : Int)), (W.getD (bfP W + (((rbL W (bfP W) (j - 1)).length : Nat) : Int)).toNat 0), false, stb, kdb, wdb, vlb, chb, f, n, c0, c1, c2, c3, p0, q0, p1, q1, p2, q2, p3, q3, d0, d1, d2, d3⟩, 2, tm⟩ ?iv rfl _ _ _ (sub_of [0, 1, 2, 3, 4, 5, 6, 7, 8, 9, 10, 11, 12, 13, 14, 15, 16, 17, 18, 19, 20, 21, 23] rfl rfl rfl (by cases bb <;> cases bm <;> rfl) ?tt ?hh ?ot ?ok); (case tt => simp only [ewj]; (exact clhA)); (case hh => (exact clhA)); (case ot => (exact clkA)); (case ok => (exact clkA)); (case iv => exact ⟨r1, r2, hl, h.hw, li, rfl, by (try dsimp only); omega, by (try dsimp only); omega, by (try dsimp only); omega, by (try dsimp only); omega⟩))
set_option maxHeartbeats 4000000 in
theorem rd2b (h : L3Inv R W0 x) (hp : x.ph = 2) (hg : geW (W0.getD 7 0) ≠ 0) (hj : x.j = 4) (J : ∀ q r, RJ q r bb R N o bm mm W0 now x ρ w I) : ∃ q r, RG q r bb R N o bm mm now x ρ w I := by
  obtain ⟨j, ⟨W, st, kd, wd, vl, ch, stb, kdb, wdb, vlb, chb, f, n, c0, c1, c2, c3, p0, q0, p1, q1, p2, q2, p3, q3, d0, d1, d2, d3⟩, ph, tm⟩ := x
  obtain rfl : W = W0 := h.eW
  dsimp only at hp hj
  subst hp
  have r1 := h.r1
  have r2 := h.r2
  have hl : W.length = 21 := h.hl
  have hl16 : 16 ≤ W.length := by omega
  have w0 : 0 ≤ W.getD 7 0 := (h.hw 7).1
  have w1 : W.getD 7 0 < 18446744073709551616 := (h.hw 7).2
  have li := h.li
  have s0 : 0 ≤ st := h.s0
  have s2 : st ≤ 10000 + (j : Int) := h.s1
  have j6 : j ≤ 6 := h.j6
  have hp := h.p
  dsimp only at hp
  have s1 : st < 1000000 := by omega
  have hj1 : (j : Int) < 6 := by omega
  have ewj : IntKind.i64.wrap ((j : Int) + 1) = ((j + 1 : Nat) : Int) := by rw [wi64 (by omega) (by omega)]; omega
  have hlj : (rbL W (bfP W) (j - 1)).length = j - 1 := rbL_len
  have ok : ROk R ⟨(epW (W.getD 7 0)), 3, (W.getD 7 0), 0, tm, some (rbL W (bfP W) (j - 1))⟩ := ⟨by simp, by show (0 : Int) ≤ 0; decide, by show (0 : Int) < R; omega, w0, w1, fun _ => ⟨li, rfl, hg⟩, fun _ => by show (rbL W (bfP W) (j - 1)).length < 4; omega, fun q => absurd (show (3 : Int) = 4 from q) (by decide)⟩
  have hsj0 : rbL W (bfP W) (j + 1 - 1) = (rbL W (bfP W) (j - 1)) ++ [W.getD (bfP W + (((rbL W (bfP W) (j - 1)).length : Nat) : Int)).toNat 0] := by
    obtain ⟨k, rfl⟩ : ∃ k, j = k + 1 := ⟨j - 1, by omega⟩
    simp only [Nat.add_sub_cancel, rbL_len]
    exact rbL_succ
  have hsj0r := hsj0.symm
  have hsj : (rbL W (bfP W) 4) = (rbL W (bfP W) (j - 1)) ++ [W.getD (bfP W + (((rbL W (bfP W) (j - 1)).length : Nat) : Int)).toNat 0] := by rw [← hsj0, hj]
  have hsjr := hsj.symm
  have hsl : (rbL W (bfP W) 4).length = (rbL W (bfP W) (j - 1)).length + 1 := by rw [hsj]; simp
  have hslr := hsl.symm
  obtain ⟨r, er⟩ : ∃ r : RR, r = ⟨4, (W.getD 7 0), 0, tm, some ((rbL W (bfP W) (j - 1)) ++ [W.getD (bfP W + (((rbL W (bfP W) (j - 1)).length : Nat) : Int)).toNat 0]), bfP W + (((rbL W (bfP W) (j - 1)).length : Nat) : Int), W.getD (bfP W + (((rbL W (bfP W) (j - 1)).length : Nat) : Int)).toNat 0, 3, 0⟩ := ⟨_, rfl⟩
  have hr : rStep R ⟨(epW (W.getD 7 0)), 3, (W.getD 7 0), 0, tm, some (rbL W (bfP W) (j - 1))⟩ W st = r := by
    subst er
    have : ((rbL W (bfP W) (j - 1)).length + 1 = 4) := by omega
    simp [-List.getD_eq_getElem?_getD, rStep, rPos, lst, bfP, this]
  have e0 : r.k = 3 := by rw [er]
  refine ⟨3, r, ?_⟩
  have hX := hXLe 3 r
  dsimp only [RG, l3T, l3H, l3E, wdH]
  refine sx hX [] 4000 rfl (by (simp [-List.getD_eq_getElem?_getD, -List.length_eq_zero_iff, conjP])) ?_
  refine sx hX [.T] 4000 rfl (by (simp [-List.getD_eq_getElem?_getD, -List.length_eq_zero_iff, conjP, hj1, r1, r2, hl, w0, w1, s0, s1, ok, hr, e0])) ?_
  (subst er; refine J _ _ ⟨j + 1, ⟨W, st + 1, 1, (bfP W + (((rbL W (bfP W) (j - 1)).length : Nat) : Int)), (W.getD (bfP W + (((rbL W (bfP W) (j - 1)).length : Nat) : Int)).toNat 0), false, stb, kdb, wdb, vlb, chb, f, n, c0, c1, c2, c3, p0, q0, p1, q1, p2, q2, p3, q3, d0, d1, d2, d3⟩, 3, tm⟩ ?iv rfl _ _ _ (sub_of [0, 1, 2, 3, 4, 5, 6, 7, 8, 9, 10, 11, 12, 13, 14, 15, 16, 17, 18, 19, 20, 21, 23] rfl rfl rfl (by cases bb <;> cases bm <;> rfl) ?tt ?hh ?ot ?ok); (case tt => simp only [ewj]; (exact clhA)); (case hh => (exact clhA)); (case ot => (exact clkA)); (case ok => (exact clkA)); (case iv => exact ⟨r1, r2, hl, h.hw, li, rfl, by (try dsimp only); omega, by (try dsimp only); omega, by (try dsimp only); omega, by (try dsimp only); omega⟩))
set_option maxHeartbeats 4000000 in
theorem rd3 (h : L3Inv R W0 x) (hp : x.ph = 3) (hg : geW (W0.getD 7 0) ≠ 0) (J : ∀ q r, RJ q r bb R N o bm mm W0 now x ρ w I) : ∃ q r, RG q r bb R N o bm mm now x ρ w I := by
  obtain ⟨j, ⟨W, st, kd, wd, vl, ch, stb, kdb, wdb, vlb, chb, f, n, c0, c1, c2, c3, p0, q0, p1, q1, p2, q2, p3, q3, d0, d1, d2, d3⟩, ph, tm⟩ := x
  obtain rfl : W = W0 := h.eW
  dsimp only at hp 
  subst hp
  have r1 := h.r1
  have r2 := h.r2
  have hl : W.length = 21 := h.hl
  have hl16 : 16 ≤ W.length := by omega
  have w0 : 0 ≤ W.getD 7 0 := (h.hw 7).1
  have w1 : W.getD 7 0 < 18446744073709551616 := (h.hw 7).2
  have li := h.li
  have s0 : 0 ≤ st := h.s0
  have s2 : st ≤ 10000 + (j : Int) := h.s1
  have j6 : j ≤ 6 := h.j6
  have hp := h.p
  dsimp only at hp
  have s1 : st < 1000000 := by omega
  have hj1 : (j : Int) < 6 := by omega
  have ewj : IntKind.i64.wrap ((j : Int) + 1) = ((j + 1 : Nat) : Int) := by rw [wi64 (by omega) (by omega)]; omega
  have ok : ROk R ⟨(epW (W.getD 7 0)), 4, (W.getD 7 0), 0, tm, some (rbL W (bfP W) 4)⟩ := ⟨by simp, by show (0 : Int) ≤ 0; decide, by show (0 : Int) < R; omega, w0, w1, fun _ => ⟨li, rfl, hg⟩, fun q => absurd (show (4 : Int) = 3 from q) (by decide), fun _ => rbL_len⟩
  obtain ⟨r, er⟩ : ∃ r : RR, r = ⟨0, (W.getD 7 0), 0, tm, some (rbL W (bfP W) 4), 7, (W.getD 7 0), 2, 0⟩ := ⟨_, rfl⟩
  have hr : rStep R ⟨(epW (W.getD 7 0)), 4, (W.getD 7 0), 0, tm, some (rbL W (bfP W) 4)⟩ W st = r := by
    subst er
    simp [-List.getD_eq_getElem?_getD, rStep, still_self li]
  have e0 : r.k = 2 := by rw [er]
  refine ⟨2, r, ?_⟩
  have hX := hXLe 2 r
  dsimp only [RG, l3T, l3H, l3E, wdH]
  refine sx hX [] 4000 rfl (by (simp [-List.getD_eq_getElem?_getD, -List.length_eq_zero_iff, conjP])) ?_
  refine sx hX [.T] 4000 rfl (by (simp [-List.getD_eq_getElem?_getD, -List.length_eq_zero_iff, conjP, hj1, r1, r2, hl, w0, w1, s0, s1, ok, hr, e0])) ?_
  (subst er; refine J _ _ ⟨j + 1, ⟨W, st + 1, 1, 7, (W.getD 7 0), false, stb, kdb, wdb, vlb, chb, f, n, c0, c1, c2, c3, p0, q0, p1, q1, p2, q2, p3, q3, d0, d1, d2, d3⟩, 4, tm⟩ ?iv rfl _ _ _ (sub_of [0, 1, 2, 3, 4, 5, 6, 7, 8, 9, 10, 11, 12, 13, 14, 15, 16, 17, 18, 19, 20, 21, 22] rfl rfl rfl (by cases bb <;> cases bm <;> rfl) ?tt ?hh ?ot ?ok); (case tt => simp only [ewj]; (exact clhA)); (case hh => (exact clhA)); (case ot => (exact clkA)); (case ok => (exact clkA)); (case iv => exact ⟨r1, r2, hl, h.hw, li, rfl, by (try dsimp only); omega, by (try dsimp only); omega, by (try dsimp only); omega, by (try dsimp only); omega⟩))
set_option maxHeartbeats 4000000 in
theorem rd5 (h : L3Inv R W0 x) (hp : x.ph = 5) (hj : x.j < 6) (J : ∀ q r, RJ q r bb R N o bm mm W0 now x ρ w I) : ∃ q r, RG q r bb R N o bm mm now x ρ w I := by
  obtain ⟨j, ⟨W, st, kd, wd, vl, ch, stb, kdb, wdb, vlb, chb, f, n, c0, c1, c2, c3, p0, q0, p1, q1, p2, q2, p3, q3, d0, d1, d2, d3⟩, ph, tm⟩ := x
  obtain rfl : W = W0 := h.eW
  dsimp only at hp hj
  subst hp
  have r1 := h.r1
  have r2 := h.r2
  have hl : W.length = 21 := h.hl
  have hl16 : 16 ≤ W.length := by omega
  have w0 : 0 ≤ W.getD 7 0 := (h.hw 7).1
  have w1 : W.getD 7 0 < 18446744073709551616 := (h.hw 7).2
  have li := h.li
  have s0 : 0 ≤ st := h.s0
  have s2 : st ≤ 10000 + (j : Int) := h.s1
  have j6 : j ≤ 6 := h.j6
  have hp := h.p
  dsimp only at hp
  have s1 : st < 1000000 := by omega
  have hj1 : (j : Int) < 6 := by omega
  have ewj : IntKind.i64.wrap ((j : Int) + 1) = ((j + 1 : Nat) : Int) := by rw [wi64 (by omega) (by omega)]; omega

  refine ⟨10, r00, ?_⟩
  have hX := hXLe 10 r00
  dsimp only [RG, l3T, l3H, l3E, wdH]
  refine sx hX [] 4000 rfl (by (simp [-List.getD_eq_getElem?_getD, -List.length_eq_zero_iff, conjP])) ?_
  refine sx hX [.T] 4000 rfl (by (simp [-List.getD_eq_getElem?_getD, -List.length_eq_zero_iff, conjP, getH, HE.so, hj1, hl])) ?_
  (refine J _ _ ⟨j + 1, ⟨W, st, kd, wd, vl, ch, stb, kdb, wdb, vlb, chb, f, n, c0, c1, c2, c3, p0, q0, p1, q1, p2, q2, p3, q3, d0, d1, d2, d3⟩, 5, tm⟩ ?iv rfl _ _ _ (sub_of [0, 1, 2, 3, 4, 5, 6, 7, 8, 9, 10, 11, 12, 13, 14, 15, 16, 17, 18, 19, 20, 21, 61] rfl rfl rfl (by cases bb <;> cases bm <;> rfl) ?tt ?hh ?ot ?ok); (case tt => simp only [ewj]; (exact clhA)); (case hh => (exact clhA)); (case ot => (exact clkA)); (case ok => (exact clkA)); (case iv => exact ⟨r1, r2, hl, h.hw, li, rfl, by (try dsimp only); omega, by (try dsimp only); omega, by (try dsimp only); omega, by (try dsimp only); omega⟩))
end
end Go.Proofs.YtmghcelohnlceaaGreatDoor

/- SmallLast: what was read. -/
namespace Go.Proofs.YtmghcelohnlceaaGreatDoor
open Go Go.Hx
set_option maxRecDepth 8000
section
variable {bb : Bool} {R now : Int} {N : Nat} {o : Nat → Int × Int} {bm : Bool} {mm : List Int} {x : L3} {z : Wd} {ρ : Nat → Nat × Nat} {w : World}
theorem lrd {W0 : List Int} {I : Act → World → Prop} (h : L3Inv R W0 x) (hj : x.j < 6) (J : ∀ q r, RJ q r bb R N o bm mm W0 now x ρ w I) : ∃ q r, RG q r bb R N o bm mm now x ρ w I := by
  rcases h.p with ⟨p, _⟩ | ⟨p, _, g⟩ | ⟨p, _, q, g⟩ | ⟨p, _, g⟩ | ⟨_, q, _⟩ | ⟨p, _, _⟩
  · by_cases g : geW (W0.getD 7 0) = 0
    · exact rd0e h p g J
    · exact rd0 h p g J
  · exact rd1 h p g J
  · by_cases g4 : x.j = 4
    · exact rd2b h p g g4 J
    · exact rd2a h p g (by omega) J
  · exact rd3 h p g J
  · omega
  · exact rd5 h p hj J
abbrev FT (bm : Bool) (mm : List Int) (now : Int) : List (Nat × SV) := [(5, .tt), (7, .int .u64 now), (8, mnV bm 20 mm), (13, .ptr 21 0)]
set_option maxHeartbeats 4000000 in
/-- There is none yet. -/
theorem lfin5 (hp : x.ph = 5) (hn : now = 0) : SS (hXLe 0 r00) (At ρ w) (Is .tt [scE bb N o, pinE RTV]) ⟨[], [], Tryz.f6, Tryz.f6.ntmps, [scE bb N o, pinE RTV], contF Tryz.f6 27 [], FT bm mm now, l3H bb N o R bm mm x⟩ := by
  obtain ⟨j, z, ph, tm⟩ := x
  dsimp only at hp
  subst hp
  subst hn
  have hX := hXLe 0 r00
  dsimp only [l3H, l3E, wdH]
  refine sx hX [] 4000 rfl (by (simp [-List.getD_eq_getElem?_getD, -List.length_eq_zero_iff, conjP])) ?_
  refine sx hX [.F] 4000 rfl (by (simp [-List.getD_eq_getElem?_getD, -List.length_eq_zero_iff, conjP, addOP])) ?_
  refine sx hX [.T] 4000 rfl (by (simp [-List.getD_eq_getElem?_getD, -List.length_eq_zero_iff, conjP])) ?_
  refine sx hX [.T] 4000 rfl (by (simp [-List.getD_eq_getElem?_getD, -List.length_eq_zero_iff, conjP, addOP])) ?_
  (exact ss_end hX [0, 1] rfl rfl trivial rfl rfl rfl (by cases bb <;> cases bm <;> rfl) (by (repeat' (first | exact rfl | exact trivial | exact sim_refl _ | refine And.intro ?_ ?_))) (by (exact clhA)) (by (repeat' (first | exact rfl | exact trivial | exact sim_refl _ | refine And.intro ?_ ?_))) (by (exact clkA)))
def lfT (mm : List Int) (now : Int) (i : Nat) : List (Nat × SV) := [(5, .tt), (7, .int .u64 now), (8, .sbuf 20 1 0 mm.length), (15, .sbuf 23 1 0 4), (17, .int .i64 (i : Int))]
def lfS (mm : List Int) (now : Int) : List (Nat × SV) := [(5, .tt), (7, .int .u64 now), (8, .sbuf 20 1 0 mm.length), (15, .sbuf 23 1 0 4)]
def lfH (bb : Bool) (N : Nat) (o : Nat → Int × Int) (R : Int) (mm : List Int) (x : L3) : List HE := wdH (scE bb N o) R x.z (mnE true mm :: (l3E R x.z.W x ++ [wdE (rbL x.z.W (bfP x.z.W) 4)]))
set_option maxHeartbeats 8000000 in
theorem lfin6 {j : Nat} {tm : Int} (n0 : 1 ≤ now) (n1 : now < mm.length) (nl : mm.length ≤ 1000000000) (mb : 1 ≤ mm.getD now.toNat 0 ∧ mm.getD now.toNat 0 ≤ 4) (hb : ∀ j : Nat, (j : Int) < mm.getD now.toNat 0 → z.W.getD (bfP z.W + (j : Int)).toNat 0 = now) :
    SS (hXLe 0 r00) (At ρ w) (Is .tt [scE bb N o, pinE RTV]) ⟨[], [], Tryz.f6, Tryz.f6.ntmps, [scE bb N o, pinE RTV], contF Tryz.f6 32 [], lfS mm now, lfH bb N o R mm ⟨j, z, 4, tm⟩⟩ := by
  have hX := hXLe 0 r00
  dsimp only [lfS]
  refine sxb hX [.l] [] 4000 rfl trivial ?_
  refine ss_sub hX (T' := lfT mm now 0) (H' := lfH bb N o R mm ⟨j, z, 4, tm⟩) [0, 1, 2, 3, 4, 5, 6, 7, 8, 9, 10, 11, 12, 13, 14, 15, 16, 17, 18, 19, 20, 21, 22, 23] rfl rfl rfl (by cases bb <;> rfl) ?tt ?hh ?ot ?ok ?_
  case tt => (exact clhA)
  case hh => (exact clhA)
  case ot => (exact clkA)
  case ok => (exact clkA)
  refine ss_loop hX (lfT mm now) (fun _ => lfH bb N o R mm ⟨j, z, 4, tm⟩) (fun i => (i : Int) ≤ mm.getD now.toNat 0) (fun i => 4 - i) 0 (by show (0 : Int) ≤ _; omega) ?_
  intro i hi I back
  have i4 : i ≤ 4 := by omega
  have ewi : IntKind.i64.wrap ((i : Int) + 1) = ((i + 1 : Nat) : Int) := by rw [wi64 (by omega) (by omega)]; omega
  have hnn : now.toNat < mm.length := by omega
  have hn2 : 0 ≤ now := by omega
  have hnl : (now.toNat : Int) = now := by omega
  have hl4 : (rbL z.W (bfP z.W) 4).length = 4 := rbL_len
  have hco : ∀ k, cellOff k 1 0 = k := fun k => by simp [cellOff]
  dsimp only [lfT, lfH, l3E, wdH, mnE, cond_true, List.cons_append, List.nil_append]
  by_cases hlt : (i : Int) < mm.getD now.toNat 0
  · have hv : (rbL z.W (bfP z.W) 4).getD i 0 = now := (rbL_get (by omega)).trans (hb i hlt)
    have hi4 : i < 4 := by omega
    refine sx hX [] 4000 rfl (by (simp [-List.getD_eq_getElem?_getD, -List.length_eq_zero_iff, conjP, hco, hnn, hn2, n1])) ?_
    refine sx hX [.T] 4000 rfl (by (simp [-List.getD_eq_getElem?_getD, -List.length_eq_zero_iff, conjP, hco, hlt, hl4, hi4, Int.toNat_natCast] <;> (first | omega | ((repeat' (refine And.intro ?_ ?_)) <;> (first | omega | exact decide_eq_false (by omega) | exact decide_eq_true (by omega)))))) ?_
    refine sx hX [.F] 4000 rfl (by (simp [-List.getD_eq_getElem?_getD, -List.length_eq_zero_iff, conjP, addOP, hco, hv, Int.toNat_natCast])) ?_
    (refine back (i + 1) (by omega) (by omega) _ _ _ (sub_of [0, 1, 2, 3, 4, 5, 6, 7, 8, 9, 10, 11, 12, 13, 14, 15, 16, 17, 18, 19, 20, 21, 22, 23] rfl rfl rfl (by cases bb <;> rfl) ?tt ?hh ?ot ?ok); (case tt => simp only [ewi]; (exact clhA)); (case hh => (exact clhA)); (case ot => (exact clkA)); (case ok => (exact clkA)))
  · refine sx hX [] 4000 rfl (by (simp [-List.getD_eq_getElem?_getD, -List.length_eq_zero_iff, conjP, hco, hnn, hn2, n1])) ?_
    refine sx hX [.F] 4000 rfl (by (simp [-List.getD_eq_getElem?_getD, -List.length_eq_zero_iff, conjP, addOP, hco, hlt])) ?_
    (exact ss_end hX [0, 1] rfl rfl trivial rfl rfl rfl (by cases bb <;> rfl) (by (repeat' (first | exact rfl | exact trivial | exact sim_refl _ | refine And.intro ?_ ?_))) (by (exact clhA)) (by (repeat' (first | exact rfl | exact trivial | exact sim_refl _ | refine And.intro ?_ ?_))) (by (exact clkA)))
set_option maxHeartbeats 8000000 in
/-- The message. -/
theorem lfin4 (hp : x.ph = 4) (n0 : 1 ≤ now) (n1 : now < mm.length) (nl : mm.length ≤ 1000000000) (mb : 1 ≤ mm.getD now.toNat 0 ∧ mm.getD now.toNat 0 ≤ 4) (hb : ∀ j : Nat, (j : Int) < mm.getD now.toNat 0 → x.z.W.getD (bfP x.z.W + (j : Int)).toNat 0 = now) :
    SS (hXLe 0 r00) (At ρ w) (Is .tt [scE bb N o, pinE RTV]) ⟨[], [], Tryz.f6, Tryz.f6.ntmps, [scE bb N o, pinE RTV], contF Tryz.f6 27 [], FT true mm now, l3H bb N o R true mm x⟩ := by
  obtain ⟨j, z, ph, tm⟩ := x
  dsimp only at hp hb
  subst hp
  have hX := hXLe 0 r00
  have hl4 : (rbL z.W (bfP z.W) 4).length = 4 := rbL_len
  have hl4r := hl4.symm
  have hz4 : 0 + (rbL z.W (bfP z.W) 4).length = 4 := by rw [hl4]
  have hz4r := hz4.symm
  have htk : List.take (mulS 0 1) [] ++ List.take (mulS (rbL z.W (bfP z.W) 4).length 1) (List.drop (mulS 0 1) (rbL z.W (bfP z.W) 4)) = rbL z.W (bfP z.W) 4 := by simp [mulS]
  have htkr := htk.symm
  have hn0 : ¬ now = 0 := by omega
  have wl : IntKind.u64.wrap (mm.length : Int) = (mm.length : Int) := wu8 (by omega) (by omega)
  have hgt : ¬ (mm.length : Int) ≤ now := by omega
  have hend := lfin6 (bb := bb) (R := R) (N := N) (o := o) (z := z) (j := j) (tm := tm) (ρ := ρ) (w := w) n0 n1 nl mb hb
  dsimp only [l3H, l3E, wdH, FT]
  refine sxb hX [.r 32] [] 4000 rfl (by (simp [-List.getD_eq_getElem?_getD, -List.length_eq_zero_iff, conjP])) ?_
  refine sxb hX [.r 32] [.F] 4000 rfl (by (simp [-List.getD_eq_getElem?_getD, -List.length_eq_zero_iff, conjP, hl4])) ?_
  refine sxb hX [.r 32] [.F] 4000 rfl (by (simp [-List.getD_eq_getElem?_getD, -List.length_eq_zero_iff, conjP, addOP, hn0])) ?_
  refine sxb hX [.r 32] [.F] 4000 rfl (by (simp [-List.getD_eq_getElem?_getD, -List.length_eq_zero_iff, conjP, addOP])) ?_
  refine sxb hX [.r 32] [.F] 4000 rfl (by (simp [-List.getD_eq_getElem?_getD, -List.length_eq_zero_iff, conjP, addOP, hl4])) ?_
  refine sxb hX [.r 32] [.F] 4000 rfl (by (simp [-List.getD_eq_getElem?_getD, -List.length_eq_zero_iff, conjP, addOP])) ?_
  refine sxb hX [.r 32] [.F] 4000 rfl (by (simp [-List.getD_eq_getElem?_getD, -List.length_eq_zero_iff, conjP, addOP, wl, hgt])) ?_
  (refine ss_sub hX (T' := lfS mm now) (H' := lfH bb N o R mm ⟨j, z, 4, tm⟩) [0, 1, 2, 3, 4, 5, 6, 7, 8, 9, 10, 11, 12, 13, 14, 15, 16, 17, 18, 19, 20, 21, 22, 24] rfl rfl rfl (by cases bb <;> rfl) ?tt ?hh ?ot ?ok hend; (case tt => (exact clhA)); (case hh => (exact clhA)); (case ot => (exact clkA)); (case ok => (exact clkA)))
end
end Go.Proofs.YtmghcelohnlceaaGreatDoor
