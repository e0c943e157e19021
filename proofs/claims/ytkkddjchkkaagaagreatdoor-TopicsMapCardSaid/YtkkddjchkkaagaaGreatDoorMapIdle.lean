/- TopicsMap: rounds in which nobody has a turn. -/
import Derived.Test.YtkkddjchkkaagaaGreatDoorMapRows
namespace Go.Proofs.YtkkddjchkkaagaaGreatDoor
open Go Go.Hx
set_option maxRecDepth 8000
section
variable {T : Nat} {R : Int} {N cap : Nat} {o : Nat → Int × Int × Bool × Bool} {x : US} {ρ : Nat → Nat × Nat} {w : World} {I : Act → World → Prop}
set_option maxHeartbeats 4000000 in
theorem ui3s (h : UInv T R N x) (hN : N < 9223372036854775688) (hs : x.i < min N 200) (ha : ibits .and .i64 (o x.i).1 3 = 3) (J : ∀ p, UJ p T R N cap o x ρ w I) : ∃ p, UG p T R N cap o x ρ w I := by
  have hz := um_idle (K := 3) h (by omega) (by decide) (.inl hs) (fun q => absurd q (by decide)) (fun q => absurd q (by decide)) (fun q => absurd q (by decide))
  have F := h.facts (by omega)
  obtain ⟨i, ⟨W, st, kd, wd, vl, ch, c0, c1, c2, p0, p1, p2, k0, k1, k2⟩, L⟩ := x
  dsimp only at ha hs F hz
  obtain ⟨hi320, ewi, t1, t4, r1, r8, hl, s0, s1, hw⟩ := F
  have hr := right_TR t1 t4 r1 r8
  have ewn : IntKind.i64.wrap ((N : Int) + 120) = (N : Int) + 120 := wi64 (by omega) (by omega)
  have f1 : (i : Int) < (N : Int) + 120 := by omega
  have f2 : (i : Int) < (N : Int) := by omega
  have f3 : (i : Int) < 200 := by omega
  have f4 : ¬ (N : Int) ≤ (i : Int) := by omega
  have f5 : ¬ (200 : Int) ≤ (i : Int) := by omega
  refine ⟨⟨T, R, 0, false, false, t00, r00⟩, ?_⟩
  have hX := hXTu ⟨T, R, 0, false, false, t00, r00⟩
  dsimp only [UG, umT, umH, tqH]
  have J := J ⟨T, R, 0, false, false, t00, r00⟩
  refine sx hX [] 4000 rfl (by (simp [-List.getD_eq_getElem?_getD, -List.length_eq_zero_iff, conjP])) ?_
  refine sx hX [.T] 4000 rfl (by (simp [-List.getD_eq_getElem?_getD, -List.length_eq_zero_iff, conjP, addOP, ewn, f1])) ?_
  refine sx hX [.T] 4000 rfl (by (simp [-List.getD_eq_getElem?_getD, -List.length_eq_zero_iff, conjP, addOP, hi320])) ?_
  refine sx hX [.T] 4000 rfl (by (simp [-List.getD_eq_getElem?_getD, -List.length_eq_zero_iff, conjP, addOP, f2])) ?_
  refine sx hX [.T] 4000 rfl (by (simp [-List.getD_eq_getElem?_getD, -List.length_eq_zero_iff, conjP, f2, f3, Int.toNat_natCast] <;> (first | omega | ((repeat' (refine And.intro ?_ ?_)) <;> (first | omega | exact decide_eq_false (by omega) | exact decide_eq_true (by omega)))))) ?_
  refine sx hX [.T] 4000 rfl (by (simp [-List.getD_eq_getElem?_getD, -List.length_eq_zero_iff, conjP, addOP, ha, Int.toNat_natCast])) ?_
  (refine J ⟨i + 1, ⟨W, st, kd, wd, vl, ch, c0, c1, c2, p0, p1, p2, k0, k1, k2⟩, L⟩ ?iv rfl _ _ _ (sub_of [0, 1, 2, 3, 4, 5, 6, 7, 8, 9, 10, 11, 12, 13, 14, 15] rfl rfl rfl rfl ?tt ?hh ?ot ?ok); (case tt => simp only [ewi]; (exact clhU)); (case hh => (exact clhU)); (case ot => (exact clkU)); (case ok => (exact clkU)); (case iv => exact hz))
set_option maxHeartbeats 4000000 in
theorem ui3n (h : UInv T R N x) (hN : N < 9223372036854775688) (hs : x.i < min N 200 + 120) (hg : N ≤ x.i) (ha : x.i % 4 = 3) (J : ∀ p, UJ p T R N cap o x ρ w I) : ∃ p, UG p T R N cap o x ρ w I := by
  have hz := um_idle (K := 3) h (by omega) (by decide) (.inr ha) (fun q => absurd q (by decide)) (fun q => absurd q (by decide)) (fun q => absurd q (by decide))
  have F := h.facts (by omega)
  obtain ⟨i, ⟨W, st, kd, wd, vl, ch, c0, c1, c2, p0, p1, p2, k0, k1, k2⟩, L⟩ := x
  dsimp only at ha hs hg F hz
  obtain ⟨hi320, ewi, t1, t4, r1, r8, hl, s0, s1, hw⟩ := F
  have hr := right_TR t1 t4 r1 r8
  have ewn : IntKind.i64.wrap ((N : Int) + 120) = (N : Int) + 120 := wi64 (by omega) (by omega)
  have f1 : (i : Int) < (N : Int) + 120 := by omega
  have f2 : ¬ (i : Int) < (N : Int) := by omega
  have f4 : (N : Int) ≤ (i : Int) := by omega
  have ha : ibits .and .i64 (i : Int) 3 = 3 := by rw [andI (by omega), ha]; rfl
  refine ⟨⟨T, R, 0, false, false, t00, r00⟩, ?_⟩
  have hX := hXTu ⟨T, R, 0, false, false, t00, r00⟩
  dsimp only [UG, umT, umH, tqH]
  have J := J ⟨T, R, 0, false, false, t00, r00⟩
  refine sx hX [] 4000 rfl (by (simp [-List.getD_eq_getElem?_getD, -List.length_eq_zero_iff, conjP])) ?_
  refine sx hX [.T] 4000 rfl (by (simp [-List.getD_eq_getElem?_getD, -List.length_eq_zero_iff, conjP, addOP, ewn, f1])) ?_
  refine sx hX [.T] 4000 rfl (by (simp [-List.getD_eq_getElem?_getD, -List.length_eq_zero_iff, conjP, addOP, hi320])) ?_
  refine sx hX [.F] 4000 rfl (by (simp [-List.getD_eq_getElem?_getD, -List.length_eq_zero_iff, conjP, addOP, f2])) ?_
  refine sx hX [.T] 4000 rfl (by (simp [-List.getD_eq_getElem?_getD, -List.length_eq_zero_iff, conjP, addOP, ha])) ?_
  (refine J ⟨i + 1, ⟨W, st, kd, wd, vl, ch, c0, c1, c2, p0, p1, p2, k0, k1, k2⟩, L⟩ ?iv rfl _ _ _ (sub_of [0, 1, 2, 3, 4, 5, 6, 7, 8, 9, 10, 11, 12, 13, 14, 15] rfl rfl rfl rfl ?tt ?hh ?ot ?ok); (case tt => simp only [ewi]; (exact clhU)); (case hh => (exact clhU)); (case ot => (exact clkU)); (case ok => (exact clkU)); (case iv => exact hz))
set_option maxHeartbeats 4000000 in
theorem ui3l (h : UInv T R N x) (hN : N < 9223372036854775688) (hs : x.i < min N 200 + 120) (hg : x.i < N) (hg2 : 200 ≤ x.i) (ha : x.i % 4 = 3) (J : ∀ p, UJ p T R N cap o x ρ w I) : ∃ p, UG p T R N cap o x ρ w I := by
  have hz := um_idle (K := 3) h (by omega) (by decide) (.inr ha) (fun q => absurd q (by decide)) (fun q => absurd q (by decide)) (fun q => absurd q (by decide))
  have F := h.facts (by omega)
  obtain ⟨i, ⟨W, st, kd, wd, vl, ch, c0, c1, c2, p0, p1, p2, k0, k1, k2⟩, L⟩ := x
  dsimp only at ha hs hg hg2 F hz
  obtain ⟨hi320, ewi, t1, t4, r1, r8, hl, s0, s1, hw⟩ := F
  have hr := right_TR t1 t4 r1 r8
  have ewn : IntKind.i64.wrap ((N : Int) + 120) = (N : Int) + 120 := wi64 (by omega) (by omega)
  have f1 : (i : Int) < (N : Int) + 120 := by omega
  have f2 : (i : Int) < (N : Int) := by omega
  have f3 : ¬ (i : Int) < 200 := by omega
  have f4 : ¬ (N : Int) ≤ (i : Int) := by omega
  have f5 : (200 : Int) ≤ (i : Int) := by omega
  have ha : ibits .and .i64 (i : Int) 3 = 3 := by rw [andI (by omega), ha]; rfl
  refine ⟨⟨T, R, 0, false, false, t00, r00⟩, ?_⟩
  have hX := hXTu ⟨T, R, 0, false, false, t00, r00⟩
  dsimp only [UG, umT, umH, tqH]
  have J := J ⟨T, R, 0, false, false, t00, r00⟩
  refine sx hX [] 4000 rfl (by (simp [-List.getD_eq_getElem?_getD, -List.length_eq_zero_iff, conjP])) ?_
  refine sx hX [.T] 4000 rfl (by (simp [-List.getD_eq_getElem?_getD, -List.length_eq_zero_iff, conjP, addOP, ewn, f1])) ?_
  refine sx hX [.T] 4000 rfl (by (simp [-List.getD_eq_getElem?_getD, -List.length_eq_zero_iff, conjP, addOP, hi320])) ?_
  refine sx hX [.T] 4000 rfl (by (simp [-List.getD_eq_getElem?_getD, -List.length_eq_zero_iff, conjP, addOP, f2])) ?_
  refine sx hX [.F] 4000 rfl (by (simp [-List.getD_eq_getElem?_getD, -List.length_eq_zero_iff, conjP, addOP, f3])) ?_
  refine sx hX [.T] 4000 rfl (by (simp [-List.getD_eq_getElem?_getD, -List.length_eq_zero_iff, conjP, addOP, ha])) ?_
  (refine J ⟨i + 1, ⟨W, st, kd, wd, vl, ch, c0, c1, c2, p0, p1, p2, k0, k1, k2⟩, L⟩ ?iv rfl _ _ _ (sub_of [0, 1, 2, 3, 4, 5, 6, 7, 8, 9, 10, 11, 12, 13, 14, 15] rfl rfl rfl rfl ?tt ?hh ?ot ?ok); (case tt => simp only [ewi]; (exact clhU)); (case hh => (exact clhU)); (case ot => (exact clkU)); (case ok => (exact clkU)); (case iv => exact hz))
set_option maxHeartbeats 4000000 in
theorem uin0n (h : UInv T R N x) (hN : N < 9223372036854775688) (hs : x.i < min N 200 + 120) (hg : N ≤ x.i) (ha : x.i % 4 = 0) (hc : x.z.c0 = none) (J : ∀ p, UJ p T R N cap o x ρ w I) : ∃ p, UG p T R N cap o x ρ w I := by
  have hz := um_idle (K := 0) h (by omega) (by decide) (.inr ha) (fun _ => .inr hc) (fun q => absurd q (by decide)) (fun q => absurd q (by decide))
  have F := h.facts (by omega)
  obtain ⟨i, ⟨W, st, kd, wd, vl, ch, c0, c1, c2, p0, p1, p2, k0, k1, k2⟩, L⟩ := x
  dsimp only at ha hc hs hg F hz
  subst hc
  obtain ⟨hi320, ewi, t1, t4, r1, r8, hl, s0, s1, hw⟩ := F
  have hr := right_TR t1 t4 r1 r8
  have ewn : IntKind.i64.wrap ((N : Int) + 120) = (N : Int) + 120 := wi64 (by omega) (by omega)
  have f1 : (i : Int) < (N : Int) + 120 := by omega
  have f2 : ¬ (i : Int) < (N : Int) := by omega
  have f4 : (N : Int) ≤ (i : Int) := by omega
  have ha : ibits .and .i64 (i : Int) 3 = 0 := by rw [andI (by omega), ha]; rfl
  refine ⟨⟨T, R, 0, false, false, t00, r00⟩, ?_⟩
  have hX := hXTu ⟨T, R, 0, false, false, t00, r00⟩
  dsimp only [UG, umT, umH, tqH]
  have J := J ⟨T, R, 0, false, false, t00, r00⟩
  refine sxb hX [.r 15] [] 4000 rfl (by (simp [-List.getD_eq_getElem?_getD, -List.length_eq_zero_iff, conjP])) ?_
  refine sxb hX [.r 15] [.T] 4000 rfl (by (simp [-List.getD_eq_getElem?_getD, -List.length_eq_zero_iff, conjP, addOP, ewn, f1])) ?_
  refine sxb hX [.r 15] [.T] 4000 rfl (by (simp [-List.getD_eq_getElem?_getD, -List.length_eq_zero_iff, conjP, addOP, hi320])) ?_
  refine sxb hX [.r 15] [.F] 4000 rfl (by (simp [-List.getD_eq_getElem?_getD, -List.length_eq_zero_iff, conjP, addOP, f2])) ?_
  refine sxb hX [.r 15] [.F] 4000 rfl (by (simp [-List.getD_eq_getElem?_getD, -List.length_eq_zero_iff, conjP, addOP, ha])) ?_
  (refine sx hX [] 4 rfl (by first | exact trivial | simp [conjP]) ?_; simp only [ha]; refine sxb hX [.l] [.T] 4000 rfl (by first | exact trivial | simp [conjP, f4]) ?_; refine J ⟨i + 1, ⟨W, st, kd, wd, vl, ch, none, c1, c2, p0, p1, p2, k0, k1, k2⟩, L⟩ ?iv rfl _ _ _ (sub_of [0, 1, 2, 3, 4, 5, 6, 7, 8, 9, 10, 11, 12, 13, 14, 15] rfl rfl rfl rfl ?tt ?hh ?ot ?ok); (case tt => simp only [ewi]; (exact clhU)); (case hh => (exact clhU)); (case ot => (exact clkU)); (case ok => (exact clkU)); (case iv => exact hz))
set_option maxHeartbeats 4000000 in
theorem uin0l (h : UInv T R N x) (hN : N < 9223372036854775688) (hs : x.i < min N 200 + 120) (hg : x.i < N) (hg2 : 200 ≤ x.i) (ha : x.i % 4 = 0) (hc : x.z.c0 = none) (J : ∀ p, UJ p T R N cap o x ρ w I) : ∃ p, UG p T R N cap o x ρ w I := by
  have hz := um_idle (K := 0) h (by omega) (by decide) (.inr ha) (fun _ => .inr hc) (fun q => absurd q (by decide)) (fun q => absurd q (by decide))
  have F := h.facts (by omega)
  obtain ⟨i, ⟨W, st, kd, wd, vl, ch, c0, c1, c2, p0, p1, p2, k0, k1, k2⟩, L⟩ := x
  dsimp only at ha hc hs hg hg2 F hz
  subst hc
  obtain ⟨hi320, ewi, t1, t4, r1, r8, hl, s0, s1, hw⟩ := F
  have hr := right_TR t1 t4 r1 r8
  have ewn : IntKind.i64.wrap ((N : Int) + 120) = (N : Int) + 120 := wi64 (by omega) (by omega)
  have f1 : (i : Int) < (N : Int) + 120 := by omega
  have f2 : (i : Int) < (N : Int) := by omega
  have f3 : ¬ (i : Int) < 200 := by omega
  have f4 : ¬ (N : Int) ≤ (i : Int) := by omega
  have f5 : (200 : Int) ≤ (i : Int) := by omega
  have ha : ibits .and .i64 (i : Int) 3 = 0 := by rw [andI (by omega), ha]; rfl
  refine ⟨⟨T, R, 0, false, false, t00, r00⟩, ?_⟩
  have hX := hXTu ⟨T, R, 0, false, false, t00, r00⟩
  dsimp only [UG, umT, umH, tqH]
  have J := J ⟨T, R, 0, false, false, t00, r00⟩
  refine sxb hX [.r 15] [] 4000 rfl (by (simp [-List.getD_eq_getElem?_getD, -List.length_eq_zero_iff, conjP])) ?_
  refine sxb hX [.r 15] [.T] 4000 rfl (by (simp [-List.getD_eq_getElem?_getD, -List.length_eq_zero_iff, conjP, addOP, ewn, f1])) ?_
  refine sxb hX [.r 15] [.T] 4000 rfl (by (simp [-List.getD_eq_getElem?_getD, -List.length_eq_zero_iff, conjP, addOP, hi320])) ?_
  refine sxb hX [.r 15] [.T] 4000 rfl (by (simp [-List.getD_eq_getElem?_getD, -List.length_eq_zero_iff, conjP, addOP, f2])) ?_
  refine sxb hX [.r 15] [.F] 4000 rfl (by (simp [-List.getD_eq_getElem?_getD, -List.length_eq_zero_iff, conjP, addOP, f3])) ?_
  refine sxb hX [.r 15] [.F] 4000 rfl (by (simp [-List.getD_eq_getElem?_getD, -List.length_eq_zero_iff, conjP, addOP, ha])) ?_
  (refine sx hX [] 4 rfl (by first | exact trivial | simp [conjP]) ?_; simp only [ha]; refine sxb hX [.l] [.F, .T] 4000 rfl (by first | exact trivial | simp [conjP, f4, f5]) ?_; refine J ⟨i + 1, ⟨W, st, kd, wd, vl, ch, none, c1, c2, p0, p1, p2, k0, k1, k2⟩, L⟩ ?iv rfl _ _ _ (sub_of [0, 1, 2, 3, 4, 5, 6, 7, 8, 9, 10, 11, 12, 13, 14, 15] rfl rfl rfl rfl ?tt ?hh ?ot ?ok); (case tt => simp only [ewi]; (exact clhU)); (case hh => (exact clhU)); (case ot => (exact clkU)); (case ok => (exact clkU)); (case iv => exact hz))
set_option maxHeartbeats 4000000 in
theorem uin1n (h : UInv T R N x) (hN : N < 9223372036854775688) (hs : x.i < min N 200 + 120) (hg : N ≤ x.i) (ha : x.i % 4 = 1) (hc : x.z.c1 = none) (J : ∀ p, UJ p T R N cap o x ρ w I) : ∃ p, UG p T R N cap o x ρ w I := by
  have hz := um_idle (K := 1) h (by omega) (by decide) (.inr ha) (fun q => absurd q (by decide)) (fun _ => .inr hc) (fun q => absurd q (by decide))
  have F := h.facts (by omega)
  obtain ⟨i, ⟨W, st, kd, wd, vl, ch, c0, c1, c2, p0, p1, p2, k0, k1, k2⟩, L⟩ := x
  dsimp only at ha hc hs hg F hz
  subst hc
  obtain ⟨hi320, ewi, t1, t4, r1, r8, hl, s0, s1, hw⟩ := F
  have hr := right_TR t1 t4 r1 r8
  have ewn : IntKind.i64.wrap ((N : Int) + 120) = (N : Int) + 120 := wi64 (by omega) (by omega)
  have f1 : (i : Int) < (N : Int) + 120 := by omega
  have f2 : ¬ (i : Int) < (N : Int) := by omega
  have f4 : (N : Int) ≤ (i : Int) := by omega
  have ha : ibits .and .i64 (i : Int) 3 = 1 := by rw [andI (by omega), ha]; rfl
  refine ⟨⟨T, R, 0, false, false, t00, r00⟩, ?_⟩
  have hX := hXTu ⟨T, R, 0, false, false, t00, r00⟩
  dsimp only [UG, umT, umH, tqH]
  have J := J ⟨T, R, 0, false, false, t00, r00⟩
  refine sxb hX [.r 15] [] 4000 rfl (by (simp [-List.getD_eq_getElem?_getD, -List.length_eq_zero_iff, conjP])) ?_
  refine sxb hX [.r 15] [.T] 4000 rfl (by (simp [-List.getD_eq_getElem?_getD, -List.length_eq_zero_iff, conjP, addOP, ewn, f1])) ?_
  refine sxb hX [.r 15] [.T] 4000 rfl (by (simp [-List.getD_eq_getElem?_getD, -List.length_eq_zero_iff, conjP, addOP, hi320])) ?_
  refine sxb hX [.r 15] [.F] 4000 rfl (by (simp [-List.getD_eq_getElem?_getD, -List.length_eq_zero_iff, conjP, addOP, f2])) ?_
  refine sxb hX [.r 15] [.F] 4000 rfl (by (simp [-List.getD_eq_getElem?_getD, -List.length_eq_zero_iff, conjP, addOP, ha])) ?_
  (refine sx hX [] 4 rfl (by first | exact trivial | simp [conjP]) ?_; simp only [ha]; refine sxb hX [.l] [.T] 4000 rfl (by first | exact trivial | simp [conjP, f4]) ?_; refine J ⟨i + 1, ⟨W, st, kd, wd, vl, ch, c0, none, c2, p0, p1, p2, k0, k1, k2⟩, L⟩ ?iv rfl _ _ _ (sub_of [0, 1, 2, 3, 4, 5, 6, 7, 8, 9, 10, 11, 12, 13, 14, 15] rfl rfl rfl rfl ?tt ?hh ?ot ?ok); (case tt => simp only [ewi]; (exact clhU)); (case hh => (exact clhU)); (case ot => (exact clkU)); (case ok => (exact clkU)); (case iv => exact hz))
set_option maxHeartbeats 4000000 in
theorem uin1l (h : UInv T R N x) (hN : N < 9223372036854775688) (hs : x.i < min N 200 + 120) (hg : x.i < N) (hg2 : 200 ≤ x.i) (ha : x.i % 4 = 1) (hc : x.z.c1 = none) (J : ∀ p, UJ p T R N cap o x ρ w I) : ∃ p, UG p T R N cap o x ρ w I := by
  have hz := um_idle (K := 1) h (by omega) (by decide) (.inr ha) (fun q => absurd q (by decide)) (fun _ => .inr hc) (fun q => absurd q (by decide))
  have F := h.facts (by omega)
  obtain ⟨i, ⟨W, st, kd, wd, vl, ch, c0, c1, c2, p0, p1, p2, k0, k1, k2⟩, L⟩ := x
  dsimp only at ha hc hs hg hg2 F hz
  subst hc
  obtain ⟨hi320, ewi, t1, t4, r1, r8, hl, s0, s1, hw⟩ := F
  have hr := right_TR t1 t4 r1 r8
  have ewn : IntKind.i64.wrap ((N : Int) + 120) = (N : Int) + 120 := wi64 (by omega) (by omega)
  have f1 : (i : Int) < (N : Int) + 120 := by omega
  have f2 : (i : Int) < (N : Int) := by omega
  have f3 : ¬ (i : Int) < 200 := by omega
  have f4 : ¬ (N : Int) ≤ (i : Int) := by omega
  have f5 : (200 : Int) ≤ (i : Int) := by omega
  have ha : ibits .and .i64 (i : Int) 3 = 1 := by rw [andI (by omega), ha]; rfl
  refine ⟨⟨T, R, 0, false, false, t00, r00⟩, ?_⟩
  have hX := hXTu ⟨T, R, 0, false, false, t00, r00⟩
  dsimp only [UG, umT, umH, tqH]
  have J := J ⟨T, R, 0, false, false, t00, r00⟩
  refine sxb hX [.r 15] [] 4000 rfl (by (simp [-List.getD_eq_getElem?_getD, -List.length_eq_zero_iff, conjP])) ?_
  refine sxb hX [.r 15] [.T] 4000 rfl (by (simp [-List.getD_eq_getElem?_getD, -List.length_eq_zero_iff, conjP, addOP, ewn, f1])) ?_
  refine sxb hX [.r 15] [.T] 4000 rfl (by (simp [-List.getD_eq_getElem?_getD, -List.length_eq_zero_iff, conjP, addOP, hi320])) ?_
  refine sxb hX [.r 15] [.T] 4000 rfl (by (simp [-List.getD_eq_getElem?_getD, -List.length_eq_zero_iff, conjP, addOP, f2])) ?_
  refine sxb hX [.r 15] [.F] 4000 rfl (by (simp [-List.getD_eq_getElem?_getD, -List.length_eq_zero_iff, conjP, addOP, f3])) ?_
  refine sxb hX [.r 15] [.F] 4000 rfl (by (simp [-List.getD_eq_getElem?_getD, -List.length_eq_zero_iff, conjP, addOP, ha])) ?_
  (refine sx hX [] 4 rfl (by first | exact trivial | simp [conjP]) ?_; simp only [ha]; refine sxb hX [.l] [.F, .T] 4000 rfl (by first | exact trivial | simp [conjP, f4, f5]) ?_; refine J ⟨i + 1, ⟨W, st, kd, wd, vl, ch, c0, none, c2, p0, p1, p2, k0, k1, k2⟩, L⟩ ?iv rfl _ _ _ (sub_of [0, 1, 2, 3, 4, 5, 6, 7, 8, 9, 10, 11, 12, 13, 14, 15] rfl rfl rfl rfl ?tt ?hh ?ot ?ok); (case tt => simp only [ewi]; (exact clhU)); (case hh => (exact clhU)); (case ot => (exact clkU)); (case ok => (exact clkU)); (case iv => exact hz))
set_option maxHeartbeats 4000000 in
theorem uin2n (h : UInv T R N x) (hN : N < 9223372036854775688) (hs : x.i < min N 200 + 120) (hg : N ≤ x.i) (ha : x.i % 4 = 2) (hc : x.z.c2 = none) (J : ∀ p, UJ p T R N cap o x ρ w I) : ∃ p, UG p T R N cap o x ρ w I := by
  have hz := um_idle (K := 2) h (by omega) (by decide) (.inr ha) (fun q => absurd q (by decide)) (fun q => absurd q (by decide)) (fun _ => .inr hc)
  have F := h.facts (by omega)
  obtain ⟨i, ⟨W, st, kd, wd, vl, ch, c0, c1, c2, p0, p1, p2, k0, k1, k2⟩, L⟩ := x
  dsimp only at ha hc hs hg F hz
  subst hc
  obtain ⟨hi320, ewi, t1, t4, r1, r8, hl, s0, s1, hw⟩ := F
  have hr := right_TR t1 t4 r1 r8
  have ewn : IntKind.i64.wrap ((N : Int) + 120) = (N : Int) + 120 := wi64 (by omega) (by omega)
  have f1 : (i : Int) < (N : Int) + 120 := by omega
  have f2 : ¬ (i : Int) < (N : Int) := by omega
  have f4 : (N : Int) ≤ (i : Int) := by omega
  have ha : ibits .and .i64 (i : Int) 3 = 2 := by rw [andI (by omega), ha]; rfl
  refine ⟨⟨T, R, 0, false, false, t00, r00⟩, ?_⟩
  have hX := hXTu ⟨T, R, 0, false, false, t00, r00⟩
  dsimp only [UG, umT, umH, tqH]
  have J := J ⟨T, R, 0, false, false, t00, r00⟩
  refine sxb hX [.r 15] [] 4000 rfl (by (simp [-List.getD_eq_getElem?_getD, -List.length_eq_zero_iff, conjP])) ?_
  refine sxb hX [.r 15] [.T] 4000 rfl (by (simp [-List.getD_eq_getElem?_getD, -List.length_eq_zero_iff, conjP, addOP, ewn, f1])) ?_
  refine sxb hX [.r 15] [.T] 4000 rfl (by (simp [-List.getD_eq_getElem?_getD, -List.length_eq_zero_iff, conjP, addOP, hi320])) ?_
  refine sxb hX [.r 15] [.F] 4000 rfl (by (simp [-List.getD_eq_getElem?_getD, -List.length_eq_zero_iff, conjP, addOP, f2])) ?_
  refine sxb hX [.r 15] [.F] 4000 rfl (by (simp [-List.getD_eq_getElem?_getD, -List.length_eq_zero_iff, conjP, addOP, ha])) ?_
  (refine sx hX [] 4 rfl (by first | exact trivial | simp [conjP]) ?_; simp only [ha]; refine sxb hX [.l] [.T] 4000 rfl (by first | exact trivial | simp [conjP, f4]) ?_; refine J ⟨i + 1, ⟨W, st, kd, wd, vl, ch, c0, c1, none, p0, p1, p2, k0, k1, k2⟩, L⟩ ?iv rfl _ _ _ (sub_of [0, 1, 2, 3, 4, 5, 6, 7, 8, 9, 10, 11, 12, 13, 14, 15] rfl rfl rfl rfl ?tt ?hh ?ot ?ok); (case tt => simp only [ewi]; (exact clhU)); (case hh => (exact clhU)); (case ot => (exact clkU)); (case ok => (exact clkU)); (case iv => exact hz))
set_option maxHeartbeats 4000000 in
theorem uin2l (h : UInv T R N x) (hN : N < 9223372036854775688) (hs : x.i < min N 200 + 120) (hg : x.i < N) (hg2 : 200 ≤ x.i) (ha : x.i % 4 = 2) (hc : x.z.c2 = none) (J : ∀ p, UJ p T R N cap o x ρ w I) : ∃ p, UG p T R N cap o x ρ w I := by
  have hz := um_idle (K := 2) h (by omega) (by decide) (.inr ha) (fun q => absurd q (by decide)) (fun q => absurd q (by decide)) (fun _ => .inr hc)
  have F := h.facts (by omega)
  obtain ⟨i, ⟨W, st, kd, wd, vl, ch, c0, c1, c2, p0, p1, p2, k0, k1, k2⟩, L⟩ := x
  dsimp only at ha hc hs hg hg2 F hz
  subst hc
  obtain ⟨hi320, ewi, t1, t4, r1, r8, hl, s0, s1, hw⟩ := F
  have hr := right_TR t1 t4 r1 r8
  have ewn : IntKind.i64.wrap ((N : Int) + 120) = (N : Int) + 120 := wi64 (by omega) (by omega)
  have f1 : (i : Int) < (N : Int) + 120 := by omega
  have f2 : (i : Int) < (N : Int) := by omega
  have f3 : ¬ (i : Int) < 200 := by omega
  have f4 : ¬ (N : Int) ≤ (i : Int) := by omega
  have f5 : (200 : Int) ≤ (i : Int) := by omega
  have ha : ibits .and .i64 (i : Int) 3 = 2 := by rw [andI (by omega), ha]; rfl
  refine ⟨⟨T, R, 0, false, false, t00, r00⟩, ?_⟩
  have hX := hXTu ⟨T, R, 0, false, false, t00, r00⟩
  dsimp only [UG, umT, umH, tqH]
  have J := J ⟨T, R, 0, false, false, t00, r00⟩
  refine sxb hX [.r 15] [] 4000 rfl (by (simp [-List.getD_eq_getElem?_getD, -List.length_eq_zero_iff, conjP])) ?_
  refine sxb hX [.r 15] [.T] 4000 rfl (by (simp [-List.getD_eq_getElem?_getD, -List.length_eq_zero_iff, conjP, addOP, ewn, f1])) ?_
  refine sxb hX [.r 15] [.T] 4000 rfl (by (simp [-List.getD_eq_getElem?_getD, -List.length_eq_zero_iff, conjP, addOP, hi320])) ?_
  refine sxb hX [.r 15] [.T] 4000 rfl (by (simp [-List.getD_eq_getElem?_getD, -List.length_eq_zero_iff, conjP, addOP, f2])) ?_
  refine sxb hX [.r 15] [.F] 4000 rfl (by (simp [-List.getD_eq_getElem?_getD, -List.length_eq_zero_iff, conjP, addOP, f3])) ?_
  refine sxb hX [.r 15] [.F] 4000 rfl (by (simp [-List.getD_eq_getElem?_getD, -List.length_eq_zero_iff, conjP, addOP, ha])) ?_
  (refine sx hX [] 4 rfl (by first | exact trivial | simp [conjP]) ?_; simp only [ha]; refine sxb hX [.l] [.F, .T] 4000 rfl (by first | exact trivial | simp [conjP, f4, f5]) ?_; refine J ⟨i + 1, ⟨W, st, kd, wd, vl, ch, c0, c1, none, p0, p1, p2, k0, k1, k2⟩, L⟩ ?iv rfl _ _ _ (sub_of [0, 1, 2, 3, 4, 5, 6, 7, 8, 9, 10, 11, 12, 13, 14, 15] rfl rfl rfl rfl ?tt ?hh ?ot ?ok); (case tt => simp only [ewi]; (exact clhU)); (case hh => (exact clhU)); (case ot => (exact clkU)); (case ok => (exact clkU)); (case iv => exact hz))
end
end Go.Proofs.YtkkddjchkkaagaaGreatDoor

/- TopicsMap: client 0 has a turn: up to its step. -/
namespace Go.Proofs.YtkkddjchkkaagaaGreatDoor
open Go Go.Hx
set_option maxRecDepth 8000
section
variable {T : Nat} {R : Int} {N cap : Nat} {o : Nat → Int × Int × Bool × Bool} {x : US} {ρ : Nat → Nat × Nat} {w : World} {I : Act → World → Prop}
set_option maxHeartbeats 4000000 in
theorem ub0f (h : UInv T R N x) (hN : N < 9223372036854775688) (hs : x.i < min N 200) (ha : ibits .and .i64 (o x.i).1 3 = 0) (hc : x.z.c0 = none) (hbk : (o x.i).2.2.1 = false)
    (J : ∀ x', UInv T R N x' → x'.i = x.i → x'.z.c0 ≠ none → ∃ p, UK p 0 T R N cap o x' ρ w I) : ∃ p, UG p T R N cap o x ρ w I := by
  obtain ⟨kq1, kq6⟩ := cRemB 1 6 (o x.i).2.1 (by decide) (by decide) (by decide) (by decide)
  have hz := fun v : Value => um_begin0 h hs hc (rm := false) (lg := (o x.i).2.2.2) (v := v) kq1 (by omega)
  have F := h.facts (by omega)
  obtain ⟨i, ⟨W, st, kd, wd, vl, ch, c0, c1, c2, p0, p1, p2, k0, k1, k2⟩, L⟩ := x
  dsimp only at ha hc hbk hs F hz
  subst hc
  obtain ⟨hi320, ewi, t1, t4, r1, r8, hl, s0, s1, hw⟩ := F
  have hr := right_TR t1 t4 r1 r8
  have ewn : IntKind.i64.wrap ((N : Int) + 120) = (N : Int) + 120 := wi64 (by omega) (by omega)
  have f1 : (i : Int) < (N : Int) + 120 := by omega
  have f2 : (i : Int) < (N : Int) := by omega
  have f3 : (i : Int) < 200 := by omega
  have f4 : ¬ (N : Int) ≤ (i : Int) := by omega
  have f5 : ¬ (200 : Int) ≤ (i : Int) := by omega
  refine ⟨⟨T, R, 0, false, false, t00, r00⟩, ?_⟩
  have hX := hXTu ⟨T, R, 0, false, false, t00, r00⟩
  dsimp only [UG, umT, umH, tqH]
  refine sxb hX [.r 15] [] 4000 rfl (by (simp [-List.getD_eq_getElem?_getD, -List.length_eq_zero_iff, conjP])) ?_
  refine sxb hX [.r 15] [.T] 4000 rfl (by (simp [-List.getD_eq_getElem?_getD, -List.length_eq_zero_iff, conjP, addOP, ewn, f1])) ?_
  refine sxb hX [.r 15] [.T] 4000 rfl (by (simp [-List.getD_eq_getElem?_getD, -List.length_eq_zero_iff, conjP, addOP, hi320])) ?_
  refine sxb hX [.r 15] [.T] 4000 rfl (by (simp [-List.getD_eq_getElem?_getD, -List.length_eq_zero_iff, conjP, addOP, f2])) ?_
  refine sxb hX [.r 15] [.T] 4000 rfl (by (simp [-List.getD_eq_getElem?_getD, -List.length_eq_zero_iff, conjP, f2, f3, Int.toNat_natCast] <;> (first | omega | ((repeat' (refine And.intro ?_ ?_)) <;> (first | omega | exact decide_eq_false (by omega) | exact decide_eq_true (by omega)))))) ?_
  refine sxb hX [.r 15] [.F] 4000 rfl (by (simp [-List.getD_eq_getElem?_getD, -List.length_eq_zero_iff, conjP, addOP, ha, Int.toNat_natCast])) ?_
  (refine sx hX [] 4 rfl (by first | exact trivial | simp [conjP]) ?_; simp only [ha, Int.toNat_natCast]; refine sxb hX [.r 19] [.F, .F] 4000 rfl (by first | exact trivial | simp [conjP, f4, f5, hbk, t1, t4, r1, r8, clO, crP, rmP]) ?_; refine ss_raw hX 6 2 rfl rfl fun v => ?_; obtain ⟨pp, h1⟩ := J ⟨i, ⟨W, st, kd, wd, vl, ch, some (newT false (o i).2.2.2 (cRem 1 6 (o i).2.1)), c1, c2, v, p1, p2, (cRem 1 6 (o i).2.1), k1, k2⟩, L⟩ (hz v) rfl (fun q => by cases q); refine ss_sub hX (T' := umK 0 N cap ⟨i, ⟨W, st, kd, wd, vl, ch, some (newT false (o i).2.2.2 (cRem 1 6 (o i).2.1)), c1, c2, v, p1, p2, (cRem 1 6 (o i).2.1), k1, k2⟩, L⟩) (H' := umH N o T R ⟨i, ⟨W, st, kd, wd, vl, ch, some (newT false (o i).2.2.2 (cRem 1 6 (o i).2.1)), c1, c2, v, p1, p2, (cRem 1 6 (o i).2.1), k1, k2⟩, L⟩) [0, 1, 2, 3, 4, 5, 6, 7, 8, 17, 18, 11, 12, 13, 14, 15] rfl rfl rfl rfl ?tt ?hh ?ot ?ok (ss_sw hX (sw_ss (hXTu pp) (cs := []) h1)); (case tt => (exact clhU)); (case hh => (exact clhU)); (case ot => (exact clkU)); (case ok => (exact clkU)))
set_option maxHeartbeats 4000000 in
theorem ub0t (h : UInv T R N x) (hN : N < 9223372036854775688) (hs : x.i < min N 200) (ha : ibits .and .i64 (o x.i).1 3 = 0) (hc : x.z.c0 = none) (hbk : (o x.i).2.2.1 = true)
    (J : ∀ x', UInv T R N x' → x'.i = x.i → x'.z.c0 ≠ none → ∃ p, UK p 0 T R N cap o x' ρ w I) : ∃ p, UG p T R N cap o x ρ w I := by
  obtain ⟨kq1, kq6⟩ := cRemB 1 6 (o x.i).2.1 (by decide) (by decide) (by decide) (by decide)
  have hz := fun v : Value => um_begin0 h hs hc (rm := true) (lg := (o x.i).2.2.2) (v := v) kq1 (by omega)
  have F := h.facts (by omega)
  obtain ⟨i, ⟨W, st, kd, wd, vl, ch, c0, c1, c2, p0, p1, p2, k0, k1, k2⟩, L⟩ := x
  dsimp only at ha hc hbk hs F hz
  subst hc
  obtain ⟨hi320, ewi, t1, t4, r1, r8, hl, s0, s1, hw⟩ := F
  have hr := right_TR t1 t4 r1 r8
  have ewn : IntKind.i64.wrap ((N : Int) + 120) = (N : Int) + 120 := wi64 (by omega) (by omega)
  have f1 : (i : Int) < (N : Int) + 120 := by omega
  have f2 : (i : Int) < (N : Int) := by omega
  have f3 : (i : Int) < 200 := by omega
  have f4 : ¬ (N : Int) ≤ (i : Int) := by omega
  have f5 : ¬ (200 : Int) ≤ (i : Int) := by omega
  refine ⟨⟨T, R, 0, true, false, t00, r00⟩, ?_⟩
  have hX := hXTu ⟨T, R, 0, true, false, t00, r00⟩
  dsimp only [UG, umT, umH, tqH]
  refine sxb hX [.r 15] [] 4000 rfl (by (simp [-List.getD_eq_getElem?_getD, -List.length_eq_zero_iff, conjP])) ?_
  refine sxb hX [.r 15] [.T] 4000 rfl (by (simp [-List.getD_eq_getElem?_getD, -List.length_eq_zero_iff, conjP, addOP, ewn, f1])) ?_
  refine sxb hX [.r 15] [.T] 4000 rfl (by (simp [-List.getD_eq_getElem?_getD, -List.length_eq_zero_iff, conjP, addOP, hi320])) ?_
  refine sxb hX [.r 15] [.T] 4000 rfl (by (simp [-List.getD_eq_getElem?_getD, -List.length_eq_zero_iff, conjP, addOP, f2])) ?_
  refine sxb hX [.r 15] [.T] 4000 rfl (by (simp [-List.getD_eq_getElem?_getD, -List.length_eq_zero_iff, conjP, f2, f3, Int.toNat_natCast] <;> (first | omega | ((repeat' (refine And.intro ?_ ?_)) <;> (first | omega | exact decide_eq_false (by omega) | exact decide_eq_true (by omega)))))) ?_
  refine sxb hX [.r 15] [.F] 4000 rfl (by (simp [-List.getD_eq_getElem?_getD, -List.length_eq_zero_iff, conjP, addOP, ha, Int.toNat_natCast])) ?_
  (refine sx hX [] 4 rfl (by first | exact trivial | simp [conjP]) ?_; simp only [ha, Int.toNat_natCast]; refine sxb hX [.r 19] [.F, .F] 4000 rfl (by first | exact trivial | simp [conjP, f4, f5, hbk, t1, t4, r1, r8, clO, crP, rmP]) ?_; refine ss_raw hX 6 2 rfl rfl fun v => ?_; obtain ⟨pp, h1⟩ := J ⟨i, ⟨W, st, kd, wd, vl, ch, some (newT true (o i).2.2.2 (cRem 1 6 (o i).2.1)), c1, c2, v, p1, p2, (cRem 1 6 (o i).2.1), k1, k2⟩, L⟩ (hz v) rfl (fun q => by cases q); refine ss_sub hX (T' := umK 0 N cap ⟨i, ⟨W, st, kd, wd, vl, ch, some (newT true (o i).2.2.2 (cRem 1 6 (o i).2.1)), c1, c2, v, p1, p2, (cRem 1 6 (o i).2.1), k1, k2⟩, L⟩) (H' := umH N o T R ⟨i, ⟨W, st, kd, wd, vl, ch, some (newT true (o i).2.2.2 (cRem 1 6 (o i).2.1)), c1, c2, v, p1, p2, (cRem 1 6 (o i).2.1), k1, k2⟩, L⟩) [0, 1, 2, 3, 4, 5, 6, 7, 8, 17, 18, 11, 12, 13, 14, 15] rfl rfl rfl rfl ?tt ?hh ?ot ?ok (ss_sw hX (sw_ss (hXTu pp) (cs := []) h1)); (case tt => (exact clhU)); (case hh => (exact clhU)); (case ot => (exact clkU)); (case ok => (exact clkU)))
set_option maxHeartbeats 4000000 in
theorem ug0cs (h : UInv T R N x) (hN : N < 9223372036854775688) (hs : x.i < min N 200) (ha : ibits .and .i64 (o x.i).1 3 = 0) {lg : Bool} {key : Int} {ph : Nat} {seq : Int} {j0 : Nat} {fd : Int} {hd : Bool} {tm er pl sn fl bk ep tp : Int} {tl : Bool} (hc : x.z.c0 = some ⟨false, lg, key, ph, seq, j0, fd, hd, tm, er, pl, sn, fl, bk, ep, tp, tl⟩)
    (J : ∀ x', UInv T R N x' → x'.i = x.i → x'.z.c0 ≠ none → ∃ p, UK p 0 T R N cap o x' ρ w I) : ∃ p, UG p T R N cap o x ρ w I := by
  have F := h.facts (by omega)
  obtain ⟨i, ⟨W, st, kd, wd, vl, ch, c0, c1, c2, p0, p1, p2, k0, k1, k2⟩, L⟩ := x
  dsimp only at ha hc hs F
  subst hc
  obtain ⟨hi320, ewi, t1, t4, r1, r8, hl, s0, s1, hw⟩ := F
  have hr := right_TR t1 t4 r1 r8
  have ewn : IntKind.i64.wrap ((N : Int) + 120) = (N : Int) + 120 := wi64 (by omega) (by omega)
  have f1 : (i : Int) < (N : Int) + 120 := by omega
  have f2 : (i : Int) < (N : Int) := by omega
  have f3 : (i : Int) < 200 := by omega
  have f4 : ¬ (N : Int) ≤ (i : Int) := by omega
  have f5 : ¬ (200 : Int) ≤ (i : Int) := by omega
  refine ⟨⟨T, R, 0, false, false, t00, r00⟩, ?_⟩
  refine ss_sw (hXTu ⟨T, R, 0, false, false, t00, r00⟩) (sw_ss hXH0 (cs := []) ?_)
  have hX := hXH0
  dsimp only [umT, umH, tqH]
  refine sxb hX [.r 15] [] 4000 rfl (by (simp [-List.getD_eq_getElem?_getD, -List.length_eq_zero_iff, conjP])) ?_
  refine sxb hX [.r 15] [.T] 4000 rfl (by (simp [-List.getD_eq_getElem?_getD, -List.length_eq_zero_iff, conjP, addOP, ewn, f1])) ?_
  refine sxb hX [.r 15] [.T] 4000 rfl (by (simp [-List.getD_eq_getElem?_getD, -List.length_eq_zero_iff, conjP, addOP, hi320])) ?_
  refine sxb hX [.r 15] [.T] 4000 rfl (by (simp [-List.getD_eq_getElem?_getD, -List.length_eq_zero_iff, conjP, addOP, f2])) ?_
  refine sxb hX [.r 15] [.T] 4000 rfl (by (simp [-List.getD_eq_getElem?_getD, -List.length_eq_zero_iff, conjP, f2, f3, Int.toNat_natCast] <;> (first | omega | ((repeat' (refine And.intro ?_ ?_)) <;> (first | omega | exact decide_eq_false (by omega) | exact decide_eq_true (by omega)))))) ?_
  refine sxb hX [.r 15] [.F] 4000 rfl (by (simp [-List.getD_eq_getElem?_getD, -List.length_eq_zero_iff, conjP, addOP, ha, Int.toNat_natCast])) ?_
  (refine sx hX [] 4 rfl (by first | exact trivial | simp [conjP]) ?_; simp only [ha, Int.toNat_natCast]; refine sxb hX [.r 19] [.F, .F] 4000 rfl (by first | exact trivial | simp [conjP, f4, f5]) ?_; obtain ⟨pp, h1⟩ := J ⟨i, ⟨W, st, kd, wd, vl, ch, some ⟨false, lg, key, ph, seq, j0, fd, hd, tm, er, pl, sn, fl, bk, ep, tp, tl⟩, c1, c2, p0, p1, p2, k0, k1, k2⟩, L⟩ h rfl (fun q => by cases q); refine ss_sub hX (T' := umK 0 N cap ⟨i, ⟨W, st, kd, wd, vl, ch, some ⟨false, lg, key, ph, seq, j0, fd, hd, tm, er, pl, sn, fl, bk, ep, tp, tl⟩, c1, c2, p0, p1, p2, k0, k1, k2⟩, L⟩) (H' := umH N o T R ⟨i, ⟨W, st, kd, wd, vl, ch, some ⟨false, lg, key, ph, seq, j0, fd, hd, tm, er, pl, sn, fl, bk, ep, tp, tl⟩, c1, c2, p0, p1, p2, k0, k1, k2⟩, L⟩) [0, 1, 2, 3, 4, 5, 6, 7, 8, 9, 10, 11, 12, 13, 14, 15] rfl rfl rfl rfl ?tt ?hh ?ot ?ok (ss_sw hX (sw_ss (hXTu pp) (cs := []) h1)); (case tt => (exact clhU)); (case hh => (exact clhU)); (case ot => (exact clkU)); (case ok => (exact clkU)))
set_option maxHeartbeats 4000000 in
theorem ug0cn (h : UInv T R N x) (hN : N < 9223372036854775688) (hs : x.i < min N 200 + 120) (hg : N ≤ x.i) (ha : x.i % 4 = 0) {lg : Bool} {key : Int} {ph : Nat} {seq : Int} {j0 : Nat} {fd : Int} {hd : Bool} {tm er pl sn fl bk ep tp : Int} {tl : Bool} (hc : x.z.c0 = some ⟨false, lg, key, ph, seq, j0, fd, hd, tm, er, pl, sn, fl, bk, ep, tp, tl⟩)
    (J : ∀ x', UInv T R N x' → x'.i = x.i → x'.z.c0 ≠ none → ∃ p, UK p 0 T R N cap o x' ρ w I) : ∃ p, UG p T R N cap o x ρ w I := by
  have F := h.facts (by omega)
  obtain ⟨i, ⟨W, st, kd, wd, vl, ch, c0, c1, c2, p0, p1, p2, k0, k1, k2⟩, L⟩ := x
  dsimp only at ha hc hs hg F
  subst hc
  obtain ⟨hi320, ewi, t1, t4, r1, r8, hl, s0, s1, hw⟩ := F
  have hr := right_TR t1 t4 r1 r8
  have ewn : IntKind.i64.wrap ((N : Int) + 120) = (N : Int) + 120 := wi64 (by omega) (by omega)
  have f1 : (i : Int) < (N : Int) + 120 := by omega
  have f2 : ¬ (i : Int) < (N : Int) := by omega
  have f4 : (N : Int) ≤ (i : Int) := by omega
  have ha : ibits .and .i64 (i : Int) 3 = 0 := by rw [andI (by omega), ha]; rfl
  refine ⟨⟨T, R, 0, false, false, t00, r00⟩, ?_⟩
  refine ss_sw (hXTu ⟨T, R, 0, false, false, t00, r00⟩) (sw_ss hXH0 (cs := []) ?_)
  have hX := hXH0
  dsimp only [umT, umH, tqH]
  refine sxb hX [.r 15] [] 4000 rfl (by (simp [-List.getD_eq_getElem?_getD, -List.length_eq_zero_iff, conjP])) ?_
  refine sxb hX [.r 15] [.T] 4000 rfl (by (simp [-List.getD_eq_getElem?_getD, -List.length_eq_zero_iff, conjP, addOP, ewn, f1])) ?_
  refine sxb hX [.r 15] [.T] 4000 rfl (by (simp [-List.getD_eq_getElem?_getD, -List.length_eq_zero_iff, conjP, addOP, hi320])) ?_
  refine sxb hX [.r 15] [.F] 4000 rfl (by (simp [-List.getD_eq_getElem?_getD, -List.length_eq_zero_iff, conjP, addOP, f2])) ?_
  refine sxb hX [.r 15] [.F] 4000 rfl (by (simp [-List.getD_eq_getElem?_getD, -List.length_eq_zero_iff, conjP, addOP, ha])) ?_
  (refine sx hX [] 4 rfl (by first | exact trivial | simp [conjP]) ?_; simp only [ha]; refine sxb hX [.r 19] [.T] 4000 rfl (by first | exact trivial | simp [conjP, f4]) ?_; obtain ⟨pp, h1⟩ := J ⟨i, ⟨W, st, kd, wd, vl, ch, some ⟨false, lg, key, ph, seq, j0, fd, hd, tm, er, pl, sn, fl, bk, ep, tp, tl⟩, c1, c2, p0, p1, p2, k0, k1, k2⟩, L⟩ h rfl (fun q => by cases q); refine ss_sub hX (T' := umK 0 N cap ⟨i, ⟨W, st, kd, wd, vl, ch, some ⟨false, lg, key, ph, seq, j0, fd, hd, tm, er, pl, sn, fl, bk, ep, tp, tl⟩, c1, c2, p0, p1, p2, k0, k1, k2⟩, L⟩) (H' := umH N o T R ⟨i, ⟨W, st, kd, wd, vl, ch, some ⟨false, lg, key, ph, seq, j0, fd, hd, tm, er, pl, sn, fl, bk, ep, tp, tl⟩, c1, c2, p0, p1, p2, k0, k1, k2⟩, L⟩) [0, 1, 2, 3, 4, 5, 6, 7, 8, 9, 10, 11, 12, 13, 14, 15] rfl rfl rfl rfl ?tt ?hh ?ot ?ok (ss_sw hX (sw_ss (hXTu pp) (cs := []) h1)); (case tt => (exact clhU)); (case hh => (exact clhU)); (case ot => (exact clkU)); (case ok => (exact clkU)))
set_option maxHeartbeats 4000000 in
theorem ug0cl (h : UInv T R N x) (hN : N < 9223372036854775688) (hs : x.i < min N 200 + 120) (hg : x.i < N) (hg2 : 200 ≤ x.i) (ha : x.i % 4 = 0) {lg : Bool} {key : Int} {ph : Nat} {seq : Int} {j0 : Nat} {fd : Int} {hd : Bool} {tm er pl sn fl bk ep tp : Int} {tl : Bool} (hc : x.z.c0 = some ⟨false, lg, key, ph, seq, j0, fd, hd, tm, er, pl, sn, fl, bk, ep, tp, tl⟩)
    (J : ∀ x', UInv T R N x' → x'.i = x.i → x'.z.c0 ≠ none → ∃ p, UK p 0 T R N cap o x' ρ w I) : ∃ p, UG p T R N cap o x ρ w I := by
  have F := h.facts (by omega)
  obtain ⟨i, ⟨W, st, kd, wd, vl, ch, c0, c1, c2, p0, p1, p2, k0, k1, k2⟩, L⟩ := x
  dsimp only at ha hc hs hg hg2 F
  subst hc
  obtain ⟨hi320, ewi, t1, t4, r1, r8, hl, s0, s1, hw⟩ := F
  have hr := right_TR t1 t4 r1 r8
  have ewn : IntKind.i64.wrap ((N : Int) + 120) = (N : Int) + 120 := wi64 (by omega) (by omega)
  have f1 : (i : Int) < (N : Int) + 120 := by omega
  have f2 : (i : Int) < (N : Int) := by omega
  have f3 : ¬ (i : Int) < 200 := by omega
  have f4 : ¬ (N : Int) ≤ (i : Int) := by omega
  have f5 : (200 : Int) ≤ (i : Int) := by omega
  have ha : ibits .and .i64 (i : Int) 3 = 0 := by rw [andI (by omega), ha]; rfl
  refine ⟨⟨T, R, 0, false, false, t00, r00⟩, ?_⟩
  refine ss_sw (hXTu ⟨T, R, 0, false, false, t00, r00⟩) (sw_ss hXH0 (cs := []) ?_)
  have hX := hXH0
  dsimp only [umT, umH, tqH]
  refine sxb hX [.r 15] [] 4000 rfl (by (simp [-List.getD_eq_getElem?_getD, -List.length_eq_zero_iff, conjP])) ?_
  refine sxb hX [.r 15] [.T] 4000 rfl (by (simp [-List.getD_eq_getElem?_getD, -List.length_eq_zero_iff, conjP, addOP, ewn, f1])) ?_
  refine sxb hX [.r 15] [.T] 4000 rfl (by (simp [-List.getD_eq_getElem?_getD, -List.length_eq_zero_iff, conjP, addOP, hi320])) ?_
  refine sxb hX [.r 15] [.T] 4000 rfl (by (simp [-List.getD_eq_getElem?_getD, -List.length_eq_zero_iff, conjP, addOP, f2])) ?_
  refine sxb hX [.r 15] [.F] 4000 rfl (by (simp [-List.getD_eq_getElem?_getD, -List.length_eq_zero_iff, conjP, addOP, f3])) ?_
  refine sxb hX [.r 15] [.F] 4000 rfl (by (simp [-List.getD_eq_getElem?_getD, -List.length_eq_zero_iff, conjP, addOP, ha])) ?_
  (refine sx hX [] 4 rfl (by first | exact trivial | simp [conjP]) ?_; simp only [ha]; refine sxb hX [.r 19] [.F, .T] 4000 rfl (by first | exact trivial | simp [conjP, f4, f5]) ?_; obtain ⟨pp, h1⟩ := J ⟨i, ⟨W, st, kd, wd, vl, ch, some ⟨false, lg, key, ph, seq, j0, fd, hd, tm, er, pl, sn, fl, bk, ep, tp, tl⟩, c1, c2, p0, p1, p2, k0, k1, k2⟩, L⟩ h rfl (fun q => by cases q); refine ss_sub hX (T' := umK 0 N cap ⟨i, ⟨W, st, kd, wd, vl, ch, some ⟨false, lg, key, ph, seq, j0, fd, hd, tm, er, pl, sn, fl, bk, ep, tp, tl⟩, c1, c2, p0, p1, p2, k0, k1, k2⟩, L⟩) (H' := umH N o T R ⟨i, ⟨W, st, kd, wd, vl, ch, some ⟨false, lg, key, ph, seq, j0, fd, hd, tm, er, pl, sn, fl, bk, ep, tp, tl⟩, c1, c2, p0, p1, p2, k0, k1, k2⟩, L⟩) [0, 1, 2, 3, 4, 5, 6, 7, 8, 9, 10, 11, 12, 13, 14, 15] rfl rfl rfl rfl ?tt ?hh ?ot ?ok (ss_sw hX (sw_ss (hXTu pp) (cs := []) h1)); (case tt => (exact clhU)); (case hh => (exact clhU)); (case ot => (exact clkU)); (case ok => (exact clkU)))
set_option maxHeartbeats 4000000 in
theorem ug0rs (h : UInv T R N x) (hN : N < 9223372036854775688) (hs : x.i < min N 200) (ha : ibits .and .i64 (o x.i).1 3 = 0) {lg : Bool} {key : Int} {ph : Nat} {seq : Int} {j0 : Nat} {fd : Int} {hd : Bool} {tm er pl sn fl bk ep tp : Int} {tl : Bool} (hc : x.z.c0 = some ⟨true, lg, key, ph, seq, j0, fd, hd, tm, er, pl, sn, fl, bk, ep, tp, tl⟩)
    (J : ∀ x', UInv T R N x' → x'.i = x.i → x'.z.c0 ≠ none → ∃ p, UK p 0 T R N cap o x' ρ w I) : ∃ p, UG p T R N cap o x ρ w I := by
  have F := h.facts (by omega)
  obtain ⟨i, ⟨W, st, kd, wd, vl, ch, c0, c1, c2, p0, p1, p2, k0, k1, k2⟩, L⟩ := x
  dsimp only at ha hc hs F
  subst hc
  obtain ⟨hi320, ewi, t1, t4, r1, r8, hl, s0, s1, hw⟩ := F
  have hr := right_TR t1 t4 r1 r8
  have ewn : IntKind.i64.wrap ((N : Int) + 120) = (N : Int) + 120 := wi64 (by omega) (by omega)
  have f1 : (i : Int) < (N : Int) + 120 := by omega
  have f2 : (i : Int) < (N : Int) := by omega
  have f3 : (i : Int) < 200 := by omega
  have f4 : ¬ (N : Int) ≤ (i : Int) := by omega
  have f5 : ¬ (200 : Int) ≤ (i : Int) := by omega
  refine ⟨⟨T, R, 0, false, false, t00, r00⟩, ?_⟩
  refine ss_sw (hXTu ⟨T, R, 0, false, false, t00, r00⟩) (sw_ss hXH0 (cs := []) ?_)
  have hX := hXH0
  dsimp only [umT, umH, tqH]
  refine sxb hX [.r 15] [] 4000 rfl (by (simp [-List.getD_eq_getElem?_getD, -List.length_eq_zero_iff, conjP])) ?_
  refine sxb hX [.r 15] [.T] 4000 rfl (by (simp [-List.getD_eq_getElem?_getD, -List.length_eq_zero_iff, conjP, addOP, ewn, f1])) ?_
  refine sxb hX [.r 15] [.T] 4000 rfl (by (simp [-List.getD_eq_getElem?_getD, -List.length_eq_zero_iff, conjP, addOP, hi320])) ?_
  refine sxb hX [.r 15] [.T] 4000 rfl (by (simp [-List.getD_eq_getElem?_getD, -List.length_eq_zero_iff, conjP, addOP, f2])) ?_
  refine sxb hX [.r 15] [.T] 4000 rfl (by (simp [-List.getD_eq_getElem?_getD, -List.length_eq_zero_iff, conjP, f2, f3, Int.toNat_natCast] <;> (first | omega | ((repeat' (refine And.intro ?_ ?_)) <;> (first | omega | exact decide_eq_false (by omega) | exact decide_eq_true (by omega)))))) ?_
  refine sxb hX [.r 15] [.F] 4000 rfl (by (simp [-List.getD_eq_getElem?_getD, -List.length_eq_zero_iff, conjP, addOP, ha, Int.toNat_natCast])) ?_
  (refine sx hX [] 4 rfl (by first | exact trivial | simp [conjP]) ?_; simp only [ha, Int.toNat_natCast]; refine sxb hX [.r 19] [.F, .F] 4000 rfl (by first | exact trivial | simp [conjP, f4, f5]) ?_; obtain ⟨pp, h1⟩ := J ⟨i, ⟨W, st, kd, wd, vl, ch, some ⟨true, lg, key, ph, seq, j0, fd, hd, tm, er, pl, sn, fl, bk, ep, tp, tl⟩, c1, c2, p0, p1, p2, k0, k1, k2⟩, L⟩ h rfl (fun q => by cases q); refine ss_sub hX (T' := umK 0 N cap ⟨i, ⟨W, st, kd, wd, vl, ch, some ⟨true, lg, key, ph, seq, j0, fd, hd, tm, er, pl, sn, fl, bk, ep, tp, tl⟩, c1, c2, p0, p1, p2, k0, k1, k2⟩, L⟩) (H' := umH N o T R ⟨i, ⟨W, st, kd, wd, vl, ch, some ⟨true, lg, key, ph, seq, j0, fd, hd, tm, er, pl, sn, fl, bk, ep, tp, tl⟩, c1, c2, p0, p1, p2, k0, k1, k2⟩, L⟩) [0, 1, 2, 3, 4, 5, 6, 7, 8, 9, 10, 11, 12, 13, 14, 15] rfl rfl rfl rfl ?tt ?hh ?ot ?ok (ss_sw hX (sw_ss (hXTu pp) (cs := []) h1)); (case tt => (exact clhU)); (case hh => (exact clhU)); (case ot => (exact clkU)); (case ok => (exact clkU)))
set_option maxHeartbeats 4000000 in
theorem ug0rn (h : UInv T R N x) (hN : N < 9223372036854775688) (hs : x.i < min N 200 + 120) (hg : N ≤ x.i) (ha : x.i % 4 = 0) {lg : Bool} {key : Int} {ph : Nat} {seq : Int} {j0 : Nat} {fd : Int} {hd : Bool} {tm er pl sn fl bk ep tp : Int} {tl : Bool} (hc : x.z.c0 = some ⟨true, lg, key, ph, seq, j0, fd, hd, tm, er, pl, sn, fl, bk, ep, tp, tl⟩)
    (J : ∀ x', UInv T R N x' → x'.i = x.i → x'.z.c0 ≠ none → ∃ p, UK p 0 T R N cap o x' ρ w I) : ∃ p, UG p T R N cap o x ρ w I := by
  have F := h.facts (by omega)
  obtain ⟨i, ⟨W, st, kd, wd, vl, ch, c0, c1, c2, p0, p1, p2, k0, k1, k2⟩, L⟩ := x
  dsimp only at ha hc hs hg F
  subst hc
  obtain ⟨hi320, ewi, t1, t4, r1, r8, hl, s0, s1, hw⟩ := F
  have hr := right_TR t1 t4 r1 r8
  have ewn : IntKind.i64.wrap ((N : Int) + 120) = (N : Int) + 120 := wi64 (by omega) (by omega)
  have f1 : (i : Int) < (N : Int) + 120 := by omega
  have f2 : ¬ (i : Int) < (N : Int) := by omega
  have f4 : (N : Int) ≤ (i : Int) := by omega
  have ha : ibits .and .i64 (i : Int) 3 = 0 := by rw [andI (by omega), ha]; rfl
  refine ⟨⟨T, R, 0, false, false, t00, r00⟩, ?_⟩
  refine ss_sw (hXTu ⟨T, R, 0, false, false, t00, r00⟩) (sw_ss hXH0 (cs := []) ?_)
  have hX := hXH0
  dsimp only [umT, umH, tqH]
  refine sxb hX [.r 15] [] 4000 rfl (by (simp [-List.getD_eq_getElem?_getD, -List.length_eq_zero_iff, conjP])) ?_
  refine sxb hX [.r 15] [.T] 4000 rfl (by (simp [-List.getD_eq_getElem?_getD, -List.length_eq_zero_iff, conjP, addOP, ewn, f1])) ?_
  refine sxb hX [.r 15] [.T] 4000 rfl (by (simp [-List.getD_eq_getElem?_getD, -List.length_eq_zero_iff, conjP, addOP, hi320])) ?_
  refine sxb hX [.r 15] [.F] 4000 rfl (by (simp [-List.getD_eq_getElem?_getD, -List.length_eq_zero_iff, conjP, addOP, f2])) ?_
  refine sxb hX [.r 15] [.F] 4000 rfl (by (simp [-List.getD_eq_getElem?_getD, -List.length_eq_zero_iff, conjP, addOP, ha])) ?_
  (refine sx hX [] 4 rfl (by first | exact trivial | simp [conjP]) ?_; simp only [ha]; refine sxb hX [.r 19] [.T] 4000 rfl (by first | exact trivial | simp [conjP, f4]) ?_; obtain ⟨pp, h1⟩ := J ⟨i, ⟨W, st, kd, wd, vl, ch, some ⟨true, lg, key, ph, seq, j0, fd, hd, tm, er, pl, sn, fl, bk, ep, tp, tl⟩, c1, c2, p0, p1, p2, k0, k1, k2⟩, L⟩ h rfl (fun q => by cases q); refine ss_sub hX (T' := umK 0 N cap ⟨i, ⟨W, st, kd, wd, vl, ch, some ⟨true, lg, key, ph, seq, j0, fd, hd, tm, er, pl, sn, fl, bk, ep, tp, tl⟩, c1, c2, p0, p1, p2, k0, k1, k2⟩, L⟩) (H' := umH N o T R ⟨i, ⟨W, st, kd, wd, vl, ch, some ⟨true, lg, key, ph, seq, j0, fd, hd, tm, er, pl, sn, fl, bk, ep, tp, tl⟩, c1, c2, p0, p1, p2, k0, k1, k2⟩, L⟩) [0, 1, 2, 3, 4, 5, 6, 7, 8, 9, 10, 11, 12, 13, 14, 15] rfl rfl rfl rfl ?tt ?hh ?ot ?ok (ss_sw hX (sw_ss (hXTu pp) (cs := []) h1)); (case tt => (exact clhU)); (case hh => (exact clhU)); (case ot => (exact clkU)); (case ok => (exact clkU)))
set_option maxHeartbeats 4000000 in
theorem ug0rl (h : UInv T R N x) (hN : N < 9223372036854775688) (hs : x.i < min N 200 + 120) (hg : x.i < N) (hg2 : 200 ≤ x.i) (ha : x.i % 4 = 0) {lg : Bool} {key : Int} {ph : Nat} {seq : Int} {j0 : Nat} {fd : Int} {hd : Bool} {tm er pl sn fl bk ep tp : Int} {tl : Bool} (hc : x.z.c0 = some ⟨true, lg, key, ph, seq, j0, fd, hd, tm, er, pl, sn, fl, bk, ep, tp, tl⟩)
    (J : ∀ x', UInv T R N x' → x'.i = x.i → x'.z.c0 ≠ none → ∃ p, UK p 0 T R N cap o x' ρ w I) : ∃ p, UG p T R N cap o x ρ w I := by
  have F := h.facts (by omega)
  obtain ⟨i, ⟨W, st, kd, wd, vl, ch, c0, c1, c2, p0, p1, p2, k0, k1, k2⟩, L⟩ := x
  dsimp only at ha hc hs hg hg2 F
  subst hc
  obtain ⟨hi320, ewi, t1, t4, r1, r8, hl, s0, s1, hw⟩ := F
  have hr := right_TR t1 t4 r1 r8
  have ewn : IntKind.i64.wrap ((N : Int) + 120) = (N : Int) + 120 := wi64 (by omega) (by omega)
  have f1 : (i : Int) < (N : Int) + 120 := by omega
  have f2 : (i : Int) < (N : Int) := by omega
  have f3 : ¬ (i : Int) < 200 := by omega
  have f4 : ¬ (N : Int) ≤ (i : Int) := by omega
  have f5 : (200 : Int) ≤ (i : Int) := by omega
  have ha : ibits .and .i64 (i : Int) 3 = 0 := by rw [andI (by omega), ha]; rfl
  refine ⟨⟨T, R, 0, false, false, t00, r00⟩, ?_⟩
  refine ss_sw (hXTu ⟨T, R, 0, false, false, t00, r00⟩) (sw_ss hXH0 (cs := []) ?_)
  have hX := hXH0
  dsimp only [umT, umH, tqH]
  refine sxb hX [.r 15] [] 4000 rfl (by (simp [-List.getD_eq_getElem?_getD, -List.length_eq_zero_iff, conjP])) ?_
  refine sxb hX [.r 15] [.T] 4000 rfl (by (simp [-List.getD_eq_getElem?_getD, -List.length_eq_zero_iff, conjP, addOP, ewn, f1])) ?_
  refine sxb hX [.r 15] [.T] 4000 rfl (by (simp [-List.getD_eq_getElem?_getD, -List.length_eq_zero_iff, conjP, addOP, hi320])) ?_
  refine sxb hX [.r 15] [.T] 4000 rfl (by (simp [-List.getD_eq_getElem?_getD, -List.length_eq_zero_iff, conjP, addOP, f2])) ?_
  refine sxb hX [.r 15] [.F] 4000 rfl (by (simp [-List.getD_eq_getElem?_getD, -List.length_eq_zero_iff, conjP, addOP, f3])) ?_
  refine sxb hX [.r 15] [.F] 4000 rfl (by (simp [-List.getD_eq_getElem?_getD, -List.length_eq_zero_iff, conjP, addOP, ha])) ?_
  (refine sx hX [] 4 rfl (by first | exact trivial | simp [conjP]) ?_; simp only [ha]; refine sxb hX [.r 19] [.F, .T] 4000 rfl (by first | exact trivial | simp [conjP, f4, f5]) ?_; obtain ⟨pp, h1⟩ := J ⟨i, ⟨W, st, kd, wd, vl, ch, some ⟨true, lg, key, ph, seq, j0, fd, hd, tm, er, pl, sn, fl, bk, ep, tp, tl⟩, c1, c2, p0, p1, p2, k0, k1, k2⟩, L⟩ h rfl (fun q => by cases q); refine ss_sub hX (T' := umK 0 N cap ⟨i, ⟨W, st, kd, wd, vl, ch, some ⟨true, lg, key, ph, seq, j0, fd, hd, tm, er, pl, sn, fl, bk, ep, tp, tl⟩, c1, c2, p0, p1, p2, k0, k1, k2⟩, L⟩) (H' := umH N o T R ⟨i, ⟨W, st, kd, wd, vl, ch, some ⟨true, lg, key, ph, seq, j0, fd, hd, tm, er, pl, sn, fl, bk, ep, tp, tl⟩, c1, c2, p0, p1, p2, k0, k1, k2⟩, L⟩) [0, 1, 2, 3, 4, 5, 6, 7, 8, 9, 10, 11, 12, 13, 14, 15] rfl rfl rfl rfl ?tt ?hh ?ot ?ok (ss_sw hX (sw_ss (hXTu pp) (cs := []) h1)); (case tt => (exact clhU)); (case hh => (exact clhU)); (case ot => (exact clkU)); (case ok => (exact clkU)))
end
end Go.Proofs.YtkkddjchkkaagaaGreatDoor
