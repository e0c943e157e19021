/- TopicsPlay: a control word is Busy from now on, or is not any more. -/
import Derived.Test.YtkkddjchkkaagaaGreatDoorPlayWorld
namespace Go.Proofs.YtkkddjchkkaagaaGreatDoor
open Go Go.Hx
set_option maxRecDepth 8000
section
variable {T : Nat} {R : Int} {N cap : Nat} {o : Nat → Int × Int × Bool × Bool} {x : AS} {ρ : Nat → Nat × Nat} {w : World} {I : Act → World → Prop}
set_option maxHeartbeats 4000000 in
theorem yabt (h : YInv T R N x) (hin : x.i < N) (hi : x.i < 150) (ha : ibits .and .i64 (o x.i).1 3 = 3) {qq : Nat} (hq : qq < T) (eq : cMod (T : Int) (o x.i).2.1 = (qq : Int)) (g : liW (x.z.W.getD (cP T qq) 0) = true)
    (J : ∀ p, YJ p T R N cap o x ρ w I) : ∃ p, YG p T R N cap o x ρ w I := by
  have F := h.facts hin hi
  have c0h := h.c0
  have c1h := h.c1
  have c2h := h.c2
  obtain ⟨i, ⟨W, st, kd, wd, vl, ch, c0, c1, c2, p0, p1, p2, k0, k1, k2⟩⟩ := x
  dsimp only at hin hi ha eq g F c0h c1h c2h
  obtain ⟨hin1, hi1, ewi, t1, t4, r1, r8, hl, s0, s1, hw⟩ := F
  have hr := right_TR t1 t4 r1 r8
  have hb := h.b
  dsimp only at hb
  have fl := fl_r (hw (cP T qq)).1 (hw (cP T qq)).2
  have cl_ := cP_lt' hl hq
  refine ⟨⟨T, R, 0, qq, true, false, false, t00, r00, 0⟩, ?_⟩
  have hX := hXTl ⟨T, R, 0, qq, true, false, false, t00, r00, 0⟩
  dsimp only [YG, ypT, ypH, yqH]
  refine sx hX [] 4000 rfl (by (simp [-List.getD_eq_getElem?_getD, -List.length_eq_zero_iff, conjP])) ?_
  refine sx hX [.T] 4000 rfl (by (simp [-List.getD_eq_getElem?_getD, -List.length_eq_zero_iff, conjP, addOP, hin1])) ?_
  refine sx hX [.T] 4000 rfl (by (simp [-List.getD_eq_getElem?_getD, -List.length_eq_zero_iff, conjP, hin, hin1, hi1, Int.toNat_natCast])) ?_
  refine sx hX [.T] 4000 rfl (by (simp [-List.getD_eq_getElem?_getD, -List.length_eq_zero_iff, conjP, ha, t1, t4, r1, r8, hl, hw, hq, eq, g, Int.toNat_natCast])) ?_
  refine sx hX [.T] 4000 rfl (by (simp [-List.getD_eq_getElem?_getD, -List.length_eq_zero_iff, conjP, hl, s0] <;> (first | omega | ((repeat' (refine And.intro ?_ ?_)) <;> (first | omega | exact decide_eq_false (by omega) | exact decide_eq_true (by omega)))))) ?_
  (refine J _ ⟨i + 1, ⟨(W.set (cP T qq) (flW (W.getD (cP T qq) 0))), st + 1, 2, (cP T qq : Int), (flW (W.getD (cP T qq) 0)), true, c0, c1, c2, p0, p1, p2, k0, k1, k2⟩⟩ ⟨(bi_set hb (by omega) fl.1 fl.2 (fun q => absurd q (by unfold cP; omega))).mono (by dsimp only; omega) (by dsimp only; omega), okO_mono (by dsimp only; omega) c0h, okO_mono (by dsimp only; omega) c1h, okO_mono (by dsimp only; omega) c2h, by dsimp only; omega, by dsimp only; omega⟩ rfl _ _ _ (sub_of [0, 1, 2, 3, 4, 5, 6, 7, 8, 9, 10, 11, 12, 13, 14, 15, 16, 17, 18, 19] rfl rfl rfl rfl ?tt ?hh ?ot ?ok); (case tt => (try simp only [ewi]); (exact clhY)); (case hh => (try simp only [if_true, Int.toNat_natCast]); (exact clhY)); (case ot => (exact clkY)); (case ok => (exact clkY)))
set_option maxHeartbeats 4000000 in
theorem yabf (h : YInv T R N x) (hin : x.i < N) (hi : x.i < 150) (ha : ibits .and .i64 (o x.i).1 3 = 3) {qq : Nat} (hq : qq < T) (eq : cMod (T : Int) (o x.i).2.1 = (qq : Int)) (g : liW (x.z.W.getD (cP T qq) 0) = false)
    (J : ∀ p, YJ p T R N cap o x ρ w I) : ∃ p, YG p T R N cap o x ρ w I := by
  have F := h.facts hin hi
  have c0h := h.c0
  have c1h := h.c1
  have c2h := h.c2
  obtain ⟨i, ⟨W, st, kd, wd, vl, ch, c0, c1, c2, p0, p1, p2, k0, k1, k2⟩⟩ := x
  dsimp only at hin hi ha eq g F c0h c1h c2h
  obtain ⟨hin1, hi1, ewi, t1, t4, r1, r8, hl, s0, s1, hw⟩ := F
  have hr := right_TR t1 t4 r1 r8
  have hb := h.b
  dsimp only at hb
  have fl := fl_r (hw (cP T qq)).1 (hw (cP T qq)).2
  have cl_ := cP_lt' hl hq
  refine ⟨⟨T, R, 0, qq, false, false, false, t00, r00, 0⟩, ?_⟩
  have hX := hXTl ⟨T, R, 0, qq, false, false, false, t00, r00, 0⟩
  dsimp only [YG, ypT, ypH, yqH]
  refine sx hX [] 4000 rfl (by (simp [-List.getD_eq_getElem?_getD, -List.length_eq_zero_iff, conjP])) ?_
  refine sx hX [.T] 4000 rfl (by (simp [-List.getD_eq_getElem?_getD, -List.length_eq_zero_iff, conjP, addOP, hin1])) ?_
  refine sx hX [.T] 4000 rfl (by (simp [-List.getD_eq_getElem?_getD, -List.length_eq_zero_iff, conjP, hin, hin1, hi1, Int.toNat_natCast])) ?_
  refine sx hX [.T] 4000 rfl (by (simp [-List.getD_eq_getElem?_getD, -List.length_eq_zero_iff, conjP, ha, t1, t4, r1, r8, hl, hw, hq, eq, g, Int.toNat_natCast])) ?_
  refine sx hX [.F] 4000 rfl (by (simp [-List.getD_eq_getElem?_getD, -List.length_eq_zero_iff, conjP, addOP])) ?_
  (refine J _ ⟨i + 1, ⟨W, st, kd, wd, vl, ch, c0, c1, c2, p0, p1, p2, k0, k1, k2⟩⟩ ⟨hb.mono (by dsimp only; omega) (by dsimp only; omega), okO_mono (by dsimp only; omega) c0h, okO_mono (by dsimp only; omega) c1h, okO_mono (by dsimp only; omega) c2h, by dsimp only; omega, by dsimp only; omega⟩ rfl _ _ _ (sub_of [0, 1, 2, 3, 4, 5, 6, 7, 8, 9, 10, 11, 12, 13, 14, 15, 16, 17, 18, 19] rfl rfl rfl rfl ?tt ?hh ?ot ?ok); (case tt => (try simp only [ewi]); (exact clhY)); (case hh => (try simp only [Int.toNat_natCast]); (exact clhY)); (case ot => (exact clkY)); (case ok => (exact clkY)))
end
end Go.Proofs.YtkkddjchkkaagaaGreatDoor
