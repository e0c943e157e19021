/- FindFails: the run that finds does a step. -/
import Derived.Test.YtkkddjchkkaagaaGreatDoorFailsTurns
namespace Go.Proofs.YtkkddjchkkaagaaGreatDoor
open Go Go.Hx
set_option maxRecDepth 8000
theorem sf_f {T : Nat} {R key : Int} (t1 : 1 ≤ T) (t8 : T ≤ 8) (r1 : 1 ≤ R) (r4 : R ≤ 4) (k1 : 1 ≤ key) (k2 : key ≤ 2147483647) : startV (T : Int) 4 1 2 4 1 6 0 R key = (((startV (T : Int) 4 1 2 4 1 6 0 R key).toNat : Nat) : Int) ∧ (startV (T : Int) 4 1 2 4 1 6 0 R key).toNat < T := by
  have := start_nn (right_FR t1 t8 r1 r4) k1 k2
  omega
theorem gw0 {a b : Int} : [a, b].getD 0 0 = a := rfl
theorem gw1 {a b : Int} : [a, b].getD 1 0 = b := rfl
theorem fc_new {T : Nat} {R key : Int} (k1 : 1 ≤ key) (k2 : key ≤ 2147483647) (r1 : 1 ≤ R) : FC T R ⟨key, 1, 0, 0, 0, 0, 0, false, 0, 0⟩ :=
  ⟨k1, k2, Nat.le_refl 1, (by omega : 1 ≤ 4), Int.le_refl 0, (by omega : (0 : Int) < R), fun q => absurd q (show ¬ (1 : Nat) = 2 by decide), fun q => absurd q (show ¬ (1 : Nat) = 3 by decide)⟩
theorem fa_new {w2 key : Int} : FAi w2 0 ⟨key, 1, 0, 0, 0, 0, 0, false, 0, 0⟩ := ⟨Int.le_refl 0, fun q => absurd rfl q, .inl rfl⟩
section
variable {T : Nat} {R : Int} {N cap : Nat} {key : Int} {o : Nat → Int × Int × Int × Bool} {x : XS} {ρ : Nat → Nat × Nat} {w : World} {I : Act → World → Prop}
set_option maxHeartbeats 4000000 in
theorem fin (h : FInv T R N (cRem 1 12 key) 1 x) (hin : x.i < N) (hi : x.i < 100) {a : Nat} {sf : Nat} (sf1 : startV (T : Int) 4 1 2 4 1 6 0 R x.z.f.key = (sf : Int)) (sf2 : sf < T) {r : FR} (hst : fStep T R sf x.z.f x.z.W x.z.st = r) (e0 : ¬ r.s.ph = 0)
    (J : ∀ p, FJ p T R N cap key o x ρ w I) : ∃ p, FU 19 a p T R N cap key o x ρ w I := by
  have hk := h.fk
  have hs2 := h.s2
  have hsq := h.sq
  have hs0 := h.s0
  have hs1 := h.s1
  have hm0 := h.m0
  have hm1 := h.m1
  have hm2 := h.m2
  have hm3 := h.m3
  have hb := h.b
  have hfa := h.fa
  have hla := h.la
  have hfo := h.fo
  have hlo := h.lo
  have hfc := h.fc
  have hlc := h.lc
  obtain ⟨i, ⟨W, st, kd, wd, vl, ch, f, l, n0, n1⟩, sq⟩ := x
  dsimp only at hin hi hst sf1 hk hs2 hsq hs0 hs1 hm0 hm1 hm2 hm3 hb hfa hla hfo hlo hfc hlc
  have t1 := hb.t1
  have t8 := hb.t8
  have r1 := hb.r1
  have r4 := hb.r4
  have hl := hb.hl
  have st0 := hb.s0
  have hr := right_FR t1 t8 r1 r4
  have fi1 : (i : Int) < (N : Int) := by omega
  have fi2 : (i : Int) < 100 := by omega
  have ewi : IntKind.i64.wrap ((i : Int) + 1) = ((i + 1 : Nat) : Int) := by rw [wi64 (by omega) (by omega)]; omega
  obtain ⟨kq1, kq2⟩ := cRemB 1 12 key (by decide) (by decide) (by decide) (by decide)
  have kk1 : 1 ≤ f.key := hfc.k1
  have kk2 : f.key ≤ 2147483647 := hfc.k2
  have kn2 : cRem 1 12 key ≤ 2147483647 := by omega
  have sn := start_nn hr kq1 kn2
  have sn2 : ¬ startV (T : Int) 4 1 2 4 1 6 0 R (cRem 1 12 key) = -1 := by omega
  have ek : IntKind.i64.wrap (1 + (IntKind.i64.wrap (key.tmod 12 + 12)).tmod 12) = cRem 1 12 key := rfl
  rw [← hsq] at hfa hfo
  obtain ⟨a1, a2, a3⟩ := fa_step hfc hfa (fun q => hfo rfl q) hst
  rw [hsq] at hfa hfo a1
  have hc1 : r.s.ph ≠ 0 → FC T R r.s := fun q => by rw [← hst] at q ⊢; exact fStep_c hb hfc q
  have hP : FB T R W st ∧ FC T R f ∧ sf < T ∧ startV (T : Int) 4 1 2 4 1 6 0 R f.key = (sf : Int) ∧ fStep T R sf f W st = r := ⟨hb, hfc, sf2, sf1, hst⟩
  obtain ⟨⟨key', ph', seq', j', fd', pl', ep', lg', er', tm'⟩, wd', vl'⟩ := r
  dsimp only at e0 a1 a2 a3 hc1
  refine ⟨⟨T, R, sf, f, ⟨⟨key', ph', seq', j', fd', pl', ep', lg', er', tm'⟩, wd', vl'⟩, false, l00, ⟨l00, 0, 0⟩, 0, 7⟩, ?_⟩
  have hX := hXFf ⟨T, R, sf, f, ⟨⟨key', ph', seq', j', fd', pl', ep', lg', er', tm'⟩, wd', vl'⟩, false, l00, ⟨l00, 0, 0⟩, 0, 7⟩
  have iv : FInv T R N (cRem 1 12 key) 0 ⟨i + 1, ⟨W, st + 1, 1, wd', vl', false, ⟨key', ph', seq', j', fd', pl', ep', lg', er', tm'⟩, l, n0, n1⟩, sq⟩ := ⟨fb_st hb (by omega), by dsimp only; omega, hc1 e0, hlc, by dsimp only; rw [a3]; exact hk, hsq, hs0, by dsimp only; omega, a1 e0, hla, (fun q => absurd q (by decide)), (fun q => absurd q (by decide)), by dsimp only; omega, by dsimp only; omega, by dsimp only; omega, by dsimp only; omega, by dsimp only; omega, by dsimp only; omega⟩
  have J := J ⟨T, R, sf, f, ⟨⟨key', ph', seq', j', fd', pl', ep', lg', er', tm'⟩, wd', vl'⟩, false, l00, ⟨l00, 0, 0⟩, 0, 7⟩ _ iv rfl
  dsimp only [ffT, fK, ffH] at J
  dsimp only [FU, ffU, fKa, ffH, acO]
  refine sx hX [] 4000 rfl (by (simp [-List.getD_eq_getElem?_getD, -List.length_eq_zero_iff, conjP, hP.1, hP.2.1, hP.2.2.1, hP.2.2.2.1, hP.2.2.2.2])) ?_
  refine sx hX [.F] 4000 rfl (by (simp [-List.getD_eq_getElem?_getD, -List.length_eq_zero_iff, conjP, addOP, e0])) ?_
  (refine J _ _ _ (sub_of [0, 1, 2, 3, 4, 5, 6, 7, 8] rfl rfl rfl rfl ?tt ?hh ?ot ?ok); (case tt => simp only [ewi]; exact clhG); (case hh => exact clhG); (case ot => exact clkG); (case ok => exact clkG))
set_option maxHeartbeats 4000000 in
theorem fit (h : FInv T R N (cRem 1 12 key) 1 x) (hin : x.i < N) (hi : x.i < 100) {a : Nat} {sf : Nat} (sf1 : startV (T : Int) 4 1 2 4 1 6 0 R x.z.f.key = (sf : Int)) (sf2 : sf < T) {r : FR} (hst : fStep T R sf x.z.f x.z.W x.z.st = r) (e0 : r.s.ph = 0) (e1 : r.s.er = 0)
    (J : ∀ p, FJ p T R N cap key o x ρ w I) : ∃ p, FU 19 a p T R N cap key o x ρ w I := by
  have hk := h.fk
  have hs2 := h.s2
  have hsq := h.sq
  have hs0 := h.s0
  have hs1 := h.s1
  have hm0 := h.m0
  have hm1 := h.m1
  have hm2 := h.m2
  have hm3 := h.m3
  have hb := h.b
  have hfa := h.fa
  have hla := h.la
  have hfo := h.fo
  have hlo := h.lo
  have hfc := h.fc
  have hlc := h.lc
  obtain ⟨i, ⟨W, st, kd, wd, vl, ch, f, l, n0, n1⟩, sq⟩ := x
  dsimp only at hin hi hst sf1 hk hs2 hsq hs0 hs1 hm0 hm1 hm2 hm3 hb hfa hla hfo hlo hfc hlc
  have t1 := hb.t1
  have t8 := hb.t8
  have r1 := hb.r1
  have r4 := hb.r4
  have hl := hb.hl
  have st0 := hb.s0
  have hr := right_FR t1 t8 r1 r4
  have fi1 : (i : Int) < (N : Int) := by omega
  have fi2 : (i : Int) < 100 := by omega
  have ewi : IntKind.i64.wrap ((i : Int) + 1) = ((i + 1 : Nat) : Int) := by rw [wi64 (by omega) (by omega)]; omega
  obtain ⟨kq1, kq2⟩ := cRemB 1 12 key (by decide) (by decide) (by decide) (by decide)
  have kk1 : 1 ≤ f.key := hfc.k1
  have kk2 : f.key ≤ 2147483647 := hfc.k2
  have kn2 : cRem 1 12 key ≤ 2147483647 := by omega
  have sn := start_nn hr kq1 kn2
  have sn2 : ¬ startV (T : Int) 4 1 2 4 1 6 0 R (cRem 1 12 key) = -1 := by omega
  have ek : IntKind.i64.wrap (1 + (IntKind.i64.wrap (key.tmod 12 + 12)).tmod 12) = cRem 1 12 key := rfl
  rw [← hsq] at hfa hfo
  obtain ⟨a1, a2, a3⟩ := fa_step hfc hfa (fun q => hfo rfl q) hst
  rw [hsq] at hfa hfo a1
  have hc1 : r.s.ph ≠ 0 → FC T R r.s := fun q => by rw [← hst] at q ⊢; exact fStep_c hb hfc q
  have hP : FB T R W st ∧ FC T R f ∧ sf < T ∧ startV (T : Int) 4 1 2 4 1 6 0 R f.key = (sf : Int) ∧ fStep T R sf f W st = r := ⟨hb, hfc, sf2, sf1, hst⟩
  obtain ⟨⟨key', ph', seq', j', fd', pl', ep', lg', er', tm'⟩, wd', vl'⟩ := r
  dsimp only at e0 e1 a1 a2 a3 hc1
  subst e0; subst e1
  refine ⟨⟨T, R, sf, f, ⟨⟨key', 0, seq', j', fd', pl', ep', lg', 0, tm'⟩, wd', vl'⟩, false, l00, ⟨l00, 0, 0⟩, 0, 7⟩, ?_⟩
  have hX := hXFf ⟨T, R, sf, f, ⟨⟨key', 0, seq', j', fd', pl', ep', lg', 0, tm'⟩, wd', vl'⟩, false, l00, ⟨l00, 0, 0⟩, 0, 7⟩
  have iv : FInv T R N (cRem 1 12 key) 0 ⟨i + 1, ⟨W, st + 1, 1, wd', vl', false, ⟨cRem 1 12 key, 1, 0, 0, 0, 0, 0, false, 0, 0⟩, l, 0, n1⟩, sq⟩ := ⟨fb_st hb (by omega), by dsimp only; omega, fc_new kq1 kn2 r1, hlc, rfl, hsq, hs0, by dsimp only; omega, fa_new, hla, (fun q => absurd q (by decide)), (fun q => absurd q (by decide)), by dsimp only; omega, by dsimp only; omega, by dsimp only; omega, by dsimp only; omega, by dsimp only; omega, by dsimp only; omega⟩
  have J := J ⟨T, R, sf, f, ⟨⟨key', 0, seq', j', fd', pl', ep', lg', 0, tm'⟩, wd', vl'⟩, false, l00, ⟨l00, 0, 0⟩, 0, 7⟩ _ iv rfl
  dsimp only [ffT, fK, ffH] at J
  dsimp only [FU, ffU, fKa, ffH, acO]
  refine sx hX [] 4000 rfl (by (simp [-List.getD_eq_getElem?_getD, -List.length_eq_zero_iff, conjP, hP.1, hP.2.1, hP.2.2.1, hP.2.2.2.1, hP.2.2.2.2])) ?_
  refine sx hX [.T] 4000 rfl (by (simp [-List.getD_eq_getElem?_getD, -List.length_eq_zero_iff, conjP])) ?_
  refine sx hX [.F] 4000 rfl (by (simp [-List.getD_eq_getElem?_getD, -List.length_eq_zero_iff, conjP, addOP])) ?_
  refine sx hX [.F] 4000 rfl (by (simp [-List.getD_eq_getElem?_getD, -List.length_eq_zero_iff, conjP])) ?_
  refine sx hX [.F] 4000 rfl (by (simp [-List.getD_eq_getElem?_getD, -List.length_eq_zero_iff, conjP, ek, sn2])) ?_
  (refine J _ _ _ (sub_of [0, 1, 2, 3, 4, 12, 6, 7, 8] rfl rfl rfl rfl ?tt ?hh ?ot ?ok); (case tt => simp only [ewi]; exact clhG); (case hh => exact clhG); (case ot => exact clkG); (case ok => exact clkG))
set_option maxHeartbeats 4000000 in
theorem fif (h : FInv T R N (cRem 1 12 key) 1 x) (hin : x.i < N) (hi : x.i < 100) {a : Nat} {sf : Nat} (sf1 : startV (T : Int) 4 1 2 4 1 6 0 R x.z.f.key = (sf : Int)) (sf2 : sf < T) {r : FR} (hst : fStep T R sf x.z.f x.z.W x.z.st = r) (e0 : r.s.ph = 0) (e1 : ¬ r.s.er = 0)
    (J : ∀ p, FJ p T R N cap key o x ρ w I) : ∃ p, FU 19 a p T R N cap key o x ρ w I := by
  have hk := h.fk
  have hs2 := h.s2
  have hsq := h.sq
  have hs0 := h.s0
  have hs1 := h.s1
  have hm0 := h.m0
  have hm1 := h.m1
  have hm2 := h.m2
  have hm3 := h.m3
  have hb := h.b
  have hfa := h.fa
  have hla := h.la
  have hfo := h.fo
  have hlo := h.lo
  have hfc := h.fc
  have hlc := h.lc
  obtain ⟨i, ⟨W, st, kd, wd, vl, ch, f, l, n0, n1⟩, sq⟩ := x
  dsimp only at hin hi hst sf1 hk hs2 hsq hs0 hs1 hm0 hm1 hm2 hm3 hb hfa hla hfo hlo hfc hlc
  have t1 := hb.t1
  have t8 := hb.t8
  have r1 := hb.r1
  have r4 := hb.r4
  have hl := hb.hl
  have st0 := hb.s0
  have hr := right_FR t1 t8 r1 r4
  have fi1 : (i : Int) < (N : Int) := by omega
  have fi2 : (i : Int) < 100 := by omega
  have ewi : IntKind.i64.wrap ((i : Int) + 1) = ((i + 1 : Nat) : Int) := by rw [wi64 (by omega) (by omega)]; omega
  obtain ⟨kq1, kq2⟩ := cRemB 1 12 key (by decide) (by decide) (by decide) (by decide)
  have kk1 : 1 ≤ f.key := hfc.k1
  have kk2 : f.key ≤ 2147483647 := hfc.k2
  have kn2 : cRem 1 12 key ≤ 2147483647 := by omega
  have sn := start_nn hr kq1 kn2
  have sn2 : ¬ startV (T : Int) 4 1 2 4 1 6 0 R (cRem 1 12 key) = -1 := by omega
  have ek : IntKind.i64.wrap (1 + (IntKind.i64.wrap (key.tmod 12 + 12)).tmod 12) = cRem 1 12 key := rfl
  rw [← hsq] at hfa hfo
  obtain ⟨a1, a2, a3⟩ := fa_step hfc hfa (fun q => hfo rfl q) hst
  rw [hsq] at hfa hfo a1
  have hc1 : r.s.ph ≠ 0 → FC T R r.s := fun q => by rw [← hst] at q ⊢; exact fStep_c hb hfc q
  have hP : FB T R W st ∧ FC T R f ∧ sf < T ∧ startV (T : Int) 4 1 2 4 1 6 0 R f.key = (sf : Int) ∧ fStep T R sf f W st = r := ⟨hb, hfc, sf2, sf1, hst⟩
  obtain ⟨⟨key', ph', seq', j', fd', pl', ep', lg', er', tm'⟩, wd', vl'⟩ := r
  dsimp only at e0 e1 a1 a2 a3 hc1
  subst e0
  have e17 : er' = 17 → ¬ n0 < R := fun q => by have := (a2 rfl).1 q; omega
  have e13 : ¬ er' = 13 := by rcases (a2 rfl).2 with q | q | q <;> omega
  refine ⟨⟨T, R, sf, f, ⟨⟨key', 0, seq', j', fd', pl', ep', lg', er', tm'⟩, wd', vl'⟩, false, l00, ⟨l00, 0, 0⟩, 1, 7⟩, ?_⟩
  have hX := hXFf ⟨T, R, sf, f, ⟨⟨key', 0, seq', j', fd', pl', ep', lg', er', tm'⟩, wd', vl'⟩, false, l00, ⟨l00, 0, 0⟩, 1, 7⟩
  have iv : FInv T R N (cRem 1 12 key) 0 ⟨i + 1, ⟨W, st + 1, 1, wd', vl', false, ⟨cRem 1 12 key, 1, 0, 0, 0, 0, 0, false, 0, 0⟩, l, 0, n1⟩, sq⟩ := ⟨fb_st hb (by omega), by dsimp only; omega, fc_new kq1 kn2 r1, hlc, rfl, hsq, hs0, by dsimp only; omega, fa_new, hla, (fun q => absurd q (by decide)), (fun q => absurd q (by decide)), by dsimp only; omega, by dsimp only; omega, by dsimp only; omega, by dsimp only; omega, by dsimp only; omega, by dsimp only; omega⟩
  have J := J ⟨T, R, sf, f, ⟨⟨key', 0, seq', j', fd', pl', ep', lg', er', tm'⟩, wd', vl'⟩, false, l00, ⟨l00, 0, 0⟩, 1, 7⟩ _ iv rfl
  dsimp only [ffT, fK, ffH] at J
  dsimp only [FU, ffU, fKa, ffH, acO]
  refine sx hX [] 4000 rfl (by (simp [-List.getD_eq_getElem?_getD, -List.length_eq_zero_iff, conjP, hP.1, hP.2.1, hP.2.2.1, hP.2.2.2.1, hP.2.2.2.2])) ?_
  refine sx hX [.T] 4000 rfl (by (simp [-List.getD_eq_getElem?_getD, -List.length_eq_zero_iff, conjP, e1])) ?_
  refine ss_pb hX [] [] 4000 rfl (fun hb0 => ?_) (fun hb0 => ?_)
  · try simp [-List.getD_eq_getElem?_getD, -List.length_eq_zero_iff] at hb0
    refine sx hX [.T] 4000 rfl (by (simp [-List.getD_eq_getElem?_getD, -List.length_eq_zero_iff, conjP, hb0])) ?_
    refine sx hX [.F] 4000 rfl (by (simp [-List.getD_eq_getElem?_getD, -List.length_eq_zero_iff, conjP, e17, gw0, hb0])) ?_
    refine sx hX [.F] 4000 rfl (by (simp [-List.getD_eq_getElem?_getD, -List.length_eq_zero_iff, conjP, hb0])) ?_
    refine sx hX [.F] 4000 rfl (by (simp [-List.getD_eq_getElem?_getD, -List.length_eq_zero_iff, conjP, ek, sn2])) ?_
    (refine J _ _ _ (sub_of [0, 1, 2, 3, 4, 12, 6, 7, 8] rfl rfl rfl rfl ?tt ?hh ?ot ?ok); (case tt => simp only [ewi]; exact clhG); (case hh => exact clhG); (case ot => exact clkG); (case ok => exact clkG))
  · try simp [-List.getD_eq_getElem?_getD, -List.length_eq_zero_iff] at hb0
    refine sx hX [.F] 4000 rfl (by (simp [-List.getD_eq_getElem?_getD, -List.length_eq_zero_iff, conjP, hb0])) ?_
    refine sx hX [.F] 4000 rfl (by (simp [-List.getD_eq_getElem?_getD, -List.length_eq_zero_iff, conjP, e13])) ?_
    refine sx hX [.F] 4000 rfl (by (simp [-List.getD_eq_getElem?_getD, -List.length_eq_zero_iff, conjP, ek, sn2])) ?_
    (refine J _ _ _ (sub_of [0, 1, 2, 3, 4, 12, 6, 7, 8] rfl rfl rfl rfl ?tt ?hh ?ot ?ok); (case tt => simp only [ewi]; exact clhG); (case hh => exact clhG); (case ot => exact clkG); (case ok => exact clkG))
end
end Go.Proofs.YtkkddjchkkaagaaGreatDoor

/- FindFails: the run that lists does a step. -/
namespace Go.Proofs.YtkkddjchkkaagaaGreatDoor
open Go Go.Hx
set_option maxRecDepth 8000
theorem lc_new {T : Nat} {R : Int} (r1 : 1 ≤ R) : LC T R ⟨1, 0, 0, 0, none, 0, 0⟩ :=
  ⟨.inl rfl, Int.le_refl 0, (by omega : (0 : Int) < R), fun q => absurd q (show ¬ (1 : Nat) = 2 by decide), Nat.le_refl 0⟩
theorem la_new {T : Nat} {w2 : Int} : LAi T w2 0 ⟨1, 0, 0, 0, none, 0, 0⟩ := ⟨Int.le_refl 0, fun q => absurd rfl q, rfl, Nat.zero_le T, fun l q => by cases q⟩
theorem lt_mv {T : Nat} {R st : Int} {s : LS} {W : List Int} {r : LR} (hr : lStep T R s W st = r) : (mvB s W = true → ∃ l, r.s.told = some l) ∧ (mvB s W = false → r.s.told = none ∨ r.s.told = s.told) ∧ (r.s.ph = 0 → mvB s W = false) := by
  subst hr
  unfold lStep mvB
  by_cases e1 : s.ph = 1
  · rw [if_pos e1]
    have e2 : decide (s.ph = 2) = false := decide_eq_false (by omega)
    rw [e2]
    refine ⟨fun q => by simp at q, fun _ => ?_, fun _ => rfl⟩
    dsimp only
    unfold lFail
    split
    · split <;> exact .inl rfl
    · exact .inl rfl
  · rw [if_neg e1]
    by_cases e2 : s.ph = 2
    · rw [if_pos e2, decide_eq_true e2]
      refine ⟨fun q => ?_, fun q => ?_, fun q => ?_⟩
      · simp only [Bool.true_and] at q
        simp only [q, if_true]
        exact ⟨_, rfl⟩
      · simp only [Bool.true_and] at q
        dsimp only
        rw [if_neg (by rw [q]; decide)]
        exact .inr rfl
      · dsimp only at q
        split at q <;> omega
    · rw [if_neg e2]
      have e3 : decide (s.ph = 2) = false := decide_eq_false e2
      rw [e3]
      refine ⟨fun q => by simp at q, fun _ => ?_, fun _ => rfl⟩
      dsimp only
      unfold lFail
      split
      · exact .inr rfl
      · split <;> exact .inl rfl
section
variable {T : Nat} {R : Int} {N cap : Nat} {key : Int} {o : Nat → Int × Int × Int × Bool} {x : XS} {ρ : Nat → Nat × Nat} {w : World} {I : Act → World → Prop}
set_option maxHeartbeats 4000000 in
theorem liA (h : FInv T R N (cRem 1 12 key) 1 x) (hin : x.i < N) (hi : x.i < 100) {a : Nat} (ht : x.z.l.told = none) (hmv : mvB x.z.l x.z.W = false) {r : LR} (hst : lStep T R x.z.l x.z.W x.z.st = r) (ht2 : r.s.told = none) (e0 : ¬ r.s.ph = 0)
    (J : ∀ p, FJ p T R N cap key o x ρ w I) : ∃ p, FU 36 a p T R N cap key o x ρ w I := by
  have hk := h.fk
  have hs2 := h.s2
  have hsq := h.sq
  have hs0 := h.s0
  have hs1 := h.s1
  have hm0 := h.m0
  have hm1 := h.m1
  have hm2 := h.m2
  have hm3 := h.m3
  have hb := h.b
  have hfa := h.fa
  have hla := h.la
  have hfo := h.fo
  have hlo := h.lo
  have hfc := h.fc
  have hlc := h.lc
  obtain ⟨i, ⟨W, st, kd, wd, vl, ch, f, l, n0, n1⟩, sq⟩ := x
  obtain ⟨ph0, seq0, j0, fd0, told0, er0, tm0⟩ := l
  dsimp only at hin hi hst ht hmv hk hs2 hsq hs0 hs1 hm0 hm1 hm2 hm3 hb hfa hla hfo hlo hfc hlc
  subst ht
  have t1 := hb.t1
  have t8 := hb.t8
  have r1 := hb.r1
  have r4 := hb.r4
  have hl := hb.hl
  have st0 := hb.s0
  have hr := right_FR t1 t8 r1 r4
  have fi1 : (i : Int) < (N : Int) := by omega
  have fi2 : (i : Int) < 100 := by omega
  have ewi : IntKind.i64.wrap ((i : Int) + 1) = ((i + 1 : Nat) : Int) := by rw [wi64 (by omega) (by omega)]; omega
  rw [← hsq] at hla hlo
  obtain ⟨a1, a2, a3, a4⟩ := la_step hlc hla (fun q => hlo rfl q) hst
  rw [hsq] at hla hlo a1
  have hi8 : j0 ≤ 8 := by have h3 : j0 ≤ T := hla.2.2.2.1; omega
  have hc1 : r.s.ph ≠ 0 → LC T R r.s := fun q => by rw [← hst] at q ⊢; exact lStep_c hb hlc q
  have hP : FB T R W st ∧ LC T R ⟨ph0, seq0, j0, fd0, none, er0, tm0⟩ ∧ lStep T R ⟨ph0, seq0, j0, fd0, none, er0, tm0⟩ W st = r ∧ mvB ⟨ph0, seq0, j0, fd0, none, er0, tm0⟩ W = false := ⟨hb, hlc, hst, hmv⟩
  obtain ⟨⟨ph', seq', j', fd', told', er', tm'⟩, wd', vl'⟩ := r
  dsimp only at e0 a1 a2 a3 a4 hc1 ht2
  subst ht2
  refine ⟨⟨T, R, 0, f00, ⟨f00, 0, 0⟩, false, ⟨ph0, seq0, j0, fd0, none, er0, tm0⟩, ⟨⟨ph', seq', j', fd', none, er', tm'⟩, wd', vl'⟩, 0, 7⟩, ?_⟩
  have hX := hXFf ⟨T, R, 0, f00, ⟨f00, 0, 0⟩, false, ⟨ph0, seq0, j0, fd0, none, er0, tm0⟩, ⟨⟨ph', seq', j', fd', none, er', tm'⟩, wd', vl'⟩, 0, 7⟩
  have iv : FInv T R N (cRem 1 12 key) 0 ⟨i + 1, ⟨W, st + 1, 1, wd', vl', false, f, ⟨ph', seq', j', fd', none, er', tm'⟩, n0, n1⟩, sq⟩ := ⟨fb_st hb (by omega), by dsimp only; omega, hfc, hc1 e0, hk, hsq, hs0, by dsimp only; omega, hfa, a1 e0, (fun q => absurd q (by decide)), (fun q => absurd q (by decide)), by dsimp only; omega, by dsimp only; omega, by dsimp only; omega, by dsimp only; omega, by dsimp only; omega, by dsimp only; omega⟩
  have J := J ⟨T, R, 0, f00, ⟨f00, 0, 0⟩, false, ⟨ph0, seq0, j0, fd0, none, er0, tm0⟩, ⟨⟨ph', seq', j', fd', none, er', tm'⟩, wd', vl'⟩, 0, 7⟩ _ iv rfl
  dsimp only [ffT, fK, ffH] at J
  dsimp only [FU, ffU, fKa, ffH, acO]
  refine sx hX [] 4000 rfl (by (simp [-List.getD_eq_getElem?_getD, -List.length_eq_zero_iff, conjP, hP.1, hP.2.1, hP.2.2.1, hP.2.2.2])) ?_
  refine sx hX [.F] 4000 rfl (by (simp [-List.getD_eq_getElem?_getD, -List.length_eq_zero_iff, conjP, addOP, e0])) ?_
  (refine J _ _ _ (sub_of [0, 1, 2, 3, 4, 5, 6, 7, 8] rfl rfl rfl rfl ?tt ?hh ?ot ?ok); (case tt => simp only [ewi]; exact clhG); (case hh => exact clhG); (case ot => exact clkG); (case ok => exact clkG))
set_option maxHeartbeats 4000000 in
theorem liB (h : FInv T R N (cRem 1 12 key) 1 x) (hin : x.i < N) (hi : x.i < 100) {a : Nat} {l' : List Int} (ht : x.z.l.told = none) (hmv : mvB x.z.l x.z.W = true) {r : LR} (hst : lStep T R x.z.l x.z.W x.z.st = r) (ht2 : r.s.told = some l') (e0 : ¬ r.s.ph = 0)
    (J : ∀ p, FJ p T R N cap key o x ρ w I) : ∃ p, FU 36 a p T R N cap key o x ρ w I := by
  have hk := h.fk
  have hs2 := h.s2
  have hsq := h.sq
  have hs0 := h.s0
  have hs1 := h.s1
  have hm0 := h.m0
  have hm1 := h.m1
  have hm2 := h.m2
  have hm3 := h.m3
  have hb := h.b
  have hfa := h.fa
  have hla := h.la
  have hfo := h.fo
  have hlo := h.lo
  have hfc := h.fc
  have hlc := h.lc
  obtain ⟨i, ⟨W, st, kd, wd, vl, ch, f, l, n0, n1⟩, sq⟩ := x
  obtain ⟨ph0, seq0, j0, fd0, told0, er0, tm0⟩ := l
  dsimp only at hin hi hst ht hmv hk hs2 hsq hs0 hs1 hm0 hm1 hm2 hm3 hb hfa hla hfo hlo hfc hlc
  subst ht
  have t1 := hb.t1
  have t8 := hb.t8
  have r1 := hb.r1
  have r4 := hb.r4
  have hl := hb.hl
  have st0 := hb.s0
  have hr := right_FR t1 t8 r1 r4
  have fi1 : (i : Int) < (N : Int) := by omega
  have fi2 : (i : Int) < 100 := by omega
  have ewi : IntKind.i64.wrap ((i : Int) + 1) = ((i + 1 : Nat) : Int) := by rw [wi64 (by omega) (by omega)]; omega
  rw [← hsq] at hla hlo
  obtain ⟨a1, a2, a3, a4⟩ := la_step hlc hla (fun q => hlo rfl q) hst
  rw [hsq] at hla hlo a1
  have hi8 : j0 ≤ 8 := by have h3 : j0 ≤ T := hla.2.2.2.1; omega
  have hc1 : r.s.ph ≠ 0 → LC T R r.s := fun q => by rw [← hst] at q ⊢; exact lStep_c hb hlc q
  have hP : FB T R W st ∧ LC T R ⟨ph0, seq0, j0, fd0, none, er0, tm0⟩ ∧ lStep T R ⟨ph0, seq0, j0, fd0, none, er0, tm0⟩ W st = r ∧ mvB ⟨ph0, seq0, j0, fd0, none, er0, tm0⟩ W = true := ⟨hb, hlc, hst, hmv⟩
  obtain ⟨⟨ph', seq', j', fd', told', er', tm'⟩, wd', vl'⟩ := r
  dsimp only at e0 a1 a2 a3 a4 hc1 ht2
  subst ht2
  refine ⟨⟨T, R, 0, f00, ⟨f00, 0, 0⟩, true, ⟨ph0, seq0, j0, fd0, none, er0, tm0⟩, ⟨⟨ph', seq', j', fd', some l', er', tm'⟩, wd', vl'⟩, 0, 7⟩, ?_⟩
  have hX := hXFf ⟨T, R, 0, f00, ⟨f00, 0, 0⟩, true, ⟨ph0, seq0, j0, fd0, none, er0, tm0⟩, ⟨⟨ph', seq', j', fd', some l', er', tm'⟩, wd', vl'⟩, 0, 7⟩
  have iv : FInv T R N (cRem 1 12 key) 0 ⟨i + 1, ⟨W, st + 1, 1, wd', vl', false, f, ⟨ph', seq', j', fd', some l', er', tm'⟩, n0, n1⟩, sq⟩ := ⟨fb_st hb (by omega), by dsimp only; omega, hfc, hc1 e0, hk, hsq, hs0, by dsimp only; omega, hfa, a1 e0, (fun q => absurd q (by decide)), (fun q => absurd q (by decide)), by dsimp only; omega, by dsimp only; omega, by dsimp only; omega, by dsimp only; omega, by dsimp only; omega, by dsimp only; omega⟩
  have J := J ⟨T, R, 0, f00, ⟨f00, 0, 0⟩, true, ⟨ph0, seq0, j0, fd0, none, er0, tm0⟩, ⟨⟨ph', seq', j', fd', some l', er', tm'⟩, wd', vl'⟩, 0, 7⟩ _ iv rfl
  dsimp only [ffT, fK, ffH] at J
  dsimp only [FU, ffU, fKa, ffH, acO]
  refine sx hX [] 4000 rfl (by (simp [-List.getD_eq_getElem?_getD, -List.length_eq_zero_iff, conjP, hP.1, hP.2.1, hP.2.2.1, hP.2.2.2])) ?_
  refine sx hX [.F] 4000 rfl (by (simp [-List.getD_eq_getElem?_getD, -List.length_eq_zero_iff, conjP, addOP, e0])) ?_
  (refine J _ _ _ (sub_of [0, 1, 2, 3, 4, 5, 6, 10, 8] rfl rfl rfl rfl ?tt ?hh ?ot ?ok); (case tt => simp only [ewi]; exact clhG); (case hh => exact clhG); (case ot => exact clkG); (case ok => exact clkG))
set_option maxHeartbeats 4000000 in
theorem liC (h : FInv T R N (cRem 1 12 key) 1 x) (hin : x.i < N) (hi : x.i < 100) {a : Nat} {l0 : List Int} (ht : x.z.l.told = some l0) (hmv : mvB x.z.l x.z.W = false) {r : LR} (hst : lStep T R x.z.l x.z.W x.z.st = r) (ht2 : r.s.told = none) (e0 : ¬ r.s.ph = 0)
    (J : ∀ p, FJ p T R N cap key o x ρ w I) : ∃ p, FU 36 a p T R N cap key o x ρ w I := by
  have hk := h.fk
  have hs2 := h.s2
  have hsq := h.sq
  have hs0 := h.s0
  have hs1 := h.s1
  have hm0 := h.m0
  have hm1 := h.m1
  have hm2 := h.m2
  have hm3 := h.m3
  have hb := h.b
  have hfa := h.fa
  have hla := h.la
  have hfo := h.fo
  have hlo := h.lo
  have hfc := h.fc
  have hlc := h.lc
  obtain ⟨i, ⟨W, st, kd, wd, vl, ch, f, l, n0, n1⟩, sq⟩ := x
  obtain ⟨ph0, seq0, j0, fd0, told0, er0, tm0⟩ := l
  dsimp only at hin hi hst ht hmv hk hs2 hsq hs0 hs1 hm0 hm1 hm2 hm3 hb hfa hla hfo hlo hfc hlc
  subst ht
  have t1 := hb.t1
  have t8 := hb.t8
  have r1 := hb.r1
  have r4 := hb.r4
  have hl := hb.hl
  have st0 := hb.s0
  have hr := right_FR t1 t8 r1 r4
  have fi1 : (i : Int) < (N : Int) := by omega
  have fi2 : (i : Int) < 100 := by omega
  have ewi : IntKind.i64.wrap ((i : Int) + 1) = ((i + 1 : Nat) : Int) := by rw [wi64 (by omega) (by omega)]; omega
  rw [← hsq] at hla hlo
  obtain ⟨a1, a2, a3, a4⟩ := la_step hlc hla (fun q => hlo rfl q) hst
  rw [hsq] at hla hlo a1
  have hi8 : j0 ≤ 8 := by have h3 : j0 ≤ T := hla.2.2.2.1; omega
  have hc1 : r.s.ph ≠ 0 → LC T R r.s := fun q => by rw [← hst] at q ⊢; exact lStep_c hb hlc q
  have hP : FB T R W st ∧ LC T R ⟨ph0, seq0, j0, fd0, some l0, er0, tm0⟩ ∧ lStep T R ⟨ph0, seq0, j0, fd0, some l0, er0, tm0⟩ W st = r ∧ mvB ⟨ph0, seq0, j0, fd0, some l0, er0, tm0⟩ W = false ∧ j0 ≤ 8 := ⟨hb, hlc, hst, hmv, hi8⟩
  obtain ⟨⟨ph', seq', j', fd', told', er', tm'⟩, wd', vl'⟩ := r
  dsimp only at e0 a1 a2 a3 a4 hc1 ht2
  subst ht2
  refine ⟨⟨T, R, 0, f00, ⟨f00, 0, 0⟩, false, ⟨ph0, seq0, j0, fd0, some l0, er0, tm0⟩, ⟨⟨ph', seq', j', fd', none, er', tm'⟩, wd', vl'⟩, 0, 7⟩, ?_⟩
  have hX := hXFf ⟨T, R, 0, f00, ⟨f00, 0, 0⟩, false, ⟨ph0, seq0, j0, fd0, some l0, er0, tm0⟩, ⟨⟨ph', seq', j', fd', none, er', tm'⟩, wd', vl'⟩, 0, 7⟩
  have iv : FInv T R N (cRem 1 12 key) 0 ⟨i + 1, ⟨W, st + 1, 1, wd', vl', false, f, ⟨ph', seq', j', fd', none, er', tm'⟩, n0, n1⟩, sq⟩ := ⟨fb_st hb (by omega), by dsimp only; omega, hfc, hc1 e0, hk, hsq, hs0, by dsimp only; omega, hfa, a1 e0, (fun q => absurd q (by decide)), (fun q => absurd q (by decide)), by dsimp only; omega, by dsimp only; omega, by dsimp only; omega, by dsimp only; omega, by dsimp only; omega, by dsimp only; omega⟩
  have J := J ⟨T, R, 0, f00, ⟨f00, 0, 0⟩, false, ⟨ph0, seq0, j0, fd0, some l0, er0, tm0⟩, ⟨⟨ph', seq', j', fd', none, er', tm'⟩, wd', vl'⟩, 0, 7⟩ _ iv rfl
  dsimp only [ffT, fK, ffH] at J
  dsimp only [FU, ffU, fKa, ffH, acO]
  refine sx hX [] 4000 rfl (by (simp [-List.getD_eq_getElem?_getD, -List.length_eq_zero_iff, conjP, hP.1, hP.2.1, hP.2.2.1, hP.2.2.2.1, hi8])) ?_
  refine sx hX [.F] 4000 rfl (by (simp [-List.getD_eq_getElem?_getD, -List.length_eq_zero_iff, conjP, addOP, e0])) ?_
  (refine J _ _ _ (sub_of [0, 1, 2, 3, 4, 5, 6, 7, 8] rfl rfl rfl rfl ?tt ?hh ?ot ?ok); (case tt => simp only [ewi]; exact clhG); (case hh => exact clhG); (case ot => exact clkG); (case ok => exact clkG))
set_option maxHeartbeats 4000000 in
theorem liD (h : FInv T R N (cRem 1 12 key) 1 x) (hin : x.i < N) (hi : x.i < 100) {a : Nat} {l0 : List Int} (ht : x.z.l.told = some l0) (hmv : mvB x.z.l x.z.W = false) {r : LR} (hst : lStep T R x.z.l x.z.W x.z.st = r) (ht2 : r.s.told = some l0) (e0 : ¬ r.s.ph = 0)
    (J : ∀ p, FJ p T R N cap key o x ρ w I) : ∃ p, FU 36 a p T R N cap key o x ρ w I := by
  have hk := h.fk
  have hs2 := h.s2
  have hsq := h.sq
  have hs0 := h.s0
  have hs1 := h.s1
  have hm0 := h.m0
  have hm1 := h.m1
  have hm2 := h.m2
  have hm3 := h.m3
  have hb := h.b
  have hfa := h.fa
  have hla := h.la
  have hfo := h.fo
  have hlo := h.lo
  have hfc := h.fc
  have hlc := h.lc
  obtain ⟨i, ⟨W, st, kd, wd, vl, ch, f, l, n0, n1⟩, sq⟩ := x
  obtain ⟨ph0, seq0, j0, fd0, told0, er0, tm0⟩ := l
  dsimp only at hin hi hst ht hmv hk hs2 hsq hs0 hs1 hm0 hm1 hm2 hm3 hb hfa hla hfo hlo hfc hlc
  subst ht
  have t1 := hb.t1
  have t8 := hb.t8
  have r1 := hb.r1
  have r4 := hb.r4
  have hl := hb.hl
  have st0 := hb.s0
  have hr := right_FR t1 t8 r1 r4
  have fi1 : (i : Int) < (N : Int) := by omega
  have fi2 : (i : Int) < 100 := by omega
  have ewi : IntKind.i64.wrap ((i : Int) + 1) = ((i + 1 : Nat) : Int) := by rw [wi64 (by omega) (by omega)]; omega
  rw [← hsq] at hla hlo
  obtain ⟨a1, a2, a3, a4⟩ := la_step hlc hla (fun q => hlo rfl q) hst
  rw [hsq] at hla hlo a1
  have hi8 : j0 ≤ 8 := by have h3 : j0 ≤ T := hla.2.2.2.1; omega
  have hc1 : r.s.ph ≠ 0 → LC T R r.s := fun q => by rw [← hst] at q ⊢; exact lStep_c hb hlc q
  have hP : FB T R W st ∧ LC T R ⟨ph0, seq0, j0, fd0, some l0, er0, tm0⟩ ∧ lStep T R ⟨ph0, seq0, j0, fd0, some l0, er0, tm0⟩ W st = r ∧ mvB ⟨ph0, seq0, j0, fd0, some l0, er0, tm0⟩ W = false ∧ j0 ≤ 8 := ⟨hb, hlc, hst, hmv, hi8⟩
  obtain ⟨⟨ph', seq', j', fd', told', er', tm'⟩, wd', vl'⟩ := r
  dsimp only at e0 a1 a2 a3 a4 hc1 ht2
  subst ht2
  refine ⟨⟨T, R, 0, f00, ⟨f00, 0, 0⟩, false, ⟨ph0, seq0, j0, fd0, some l0, er0, tm0⟩, ⟨⟨ph', seq', j', fd', some l0, er', tm'⟩, wd', vl'⟩, 0, 7⟩, ?_⟩
  have hX := hXFf ⟨T, R, 0, f00, ⟨f00, 0, 0⟩, false, ⟨ph0, seq0, j0, fd0, some l0, er0, tm0⟩, ⟨⟨ph', seq', j', fd', some l0, er', tm'⟩, wd', vl'⟩, 0, 7⟩
  have iv : FInv T R N (cRem 1 12 key) 0 ⟨i + 1, ⟨W, st + 1, 1, wd', vl', false, f, ⟨ph', seq', j', fd', some l0, er', tm'⟩, n0, n1⟩, sq⟩ := ⟨fb_st hb (by omega), by dsimp only; omega, hfc, hc1 e0, hk, hsq, hs0, by dsimp only; omega, hfa, a1 e0, (fun q => absurd q (by decide)), (fun q => absurd q (by decide)), by dsimp only; omega, by dsimp only; omega, by dsimp only; omega, by dsimp only; omega, by dsimp only; omega, by dsimp only; omega⟩
  have J := J ⟨T, R, 0, f00, ⟨f00, 0, 0⟩, false, ⟨ph0, seq0, j0, fd0, some l0, er0, tm0⟩, ⟨⟨ph', seq', j', fd', some l0, er', tm'⟩, wd', vl'⟩, 0, 7⟩ _ iv rfl
  dsimp only [ffT, fK, ffH] at J
  dsimp only [FU, ffU, fKa, ffH, acO]
  refine sx hX [] 4000 rfl (by (simp [-List.getD_eq_getElem?_getD, -List.length_eq_zero_iff, conjP, hP.1, hP.2.1, hP.2.2.1, hP.2.2.2.1, hi8])) ?_
  refine sx hX [.F] 4000 rfl (by (simp [-List.getD_eq_getElem?_getD, -List.length_eq_zero_iff, conjP, addOP, e0])) ?_
  (refine J _ _ _ (sub_of [0, 1, 2, 3, 4, 5, 6, 7, 8] rfl rfl rfl rfl ?tt ?hh ?ot ?ok); (case tt => simp only [ewi]; exact clhG); (case hh => exact clhG); (case ot => exact clkG); (case ok => exact clkG))
set_option maxHeartbeats 4000000 in
theorem liE (h : FInv T R N (cRem 1 12 key) 1 x) (hin : x.i < N) (hi : x.i < 100) {a : Nat} {l0 : List Int} {l' : List Int} (ht : x.z.l.told = some l0) (hmv : mvB x.z.l x.z.W = true) {r : LR} (hst : lStep T R x.z.l x.z.W x.z.st = r) (ht2 : r.s.told = some l') (e0 : ¬ r.s.ph = 0)
    (J : ∀ p, FJ p T R N cap key o x ρ w I) : ∃ p, FU 36 a p T R N cap key o x ρ w I := by
  have hk := h.fk
  have hs2 := h.s2
  have hsq := h.sq
  have hs0 := h.s0
  have hs1 := h.s1
  have hm0 := h.m0
  have hm1 := h.m1
  have hm2 := h.m2
  have hm3 := h.m3
  have hb := h.b
  have hfa := h.fa
  have hla := h.la
  have hfo := h.fo
  have hlo := h.lo
  have hfc := h.fc
  have hlc := h.lc
  obtain ⟨i, ⟨W, st, kd, wd, vl, ch, f, l, n0, n1⟩, sq⟩ := x
  obtain ⟨ph0, seq0, j0, fd0, told0, er0, tm0⟩ := l
  dsimp only at hin hi hst ht hmv hk hs2 hsq hs0 hs1 hm0 hm1 hm2 hm3 hb hfa hla hfo hlo hfc hlc
  subst ht
  have t1 := hb.t1
  have t8 := hb.t8
  have r1 := hb.r1
  have r4 := hb.r4
  have hl := hb.hl
  have st0 := hb.s0
  have hr := right_FR t1 t8 r1 r4
  have fi1 : (i : Int) < (N : Int) := by omega
  have fi2 : (i : Int) < 100 := by omega
  have ewi : IntKind.i64.wrap ((i : Int) + 1) = ((i + 1 : Nat) : Int) := by rw [wi64 (by omega) (by omega)]; omega
  rw [← hsq] at hla hlo
  obtain ⟨a1, a2, a3, a4⟩ := la_step hlc hla (fun q => hlo rfl q) hst
  rw [hsq] at hla hlo a1
  have hi8 : j0 ≤ 8 := by have h3 : j0 ≤ T := hla.2.2.2.1; omega
  have hc1 : r.s.ph ≠ 0 → LC T R r.s := fun q => by rw [← hst] at q ⊢; exact lStep_c hb hlc q
  have hP : FB T R W st ∧ LC T R ⟨ph0, seq0, j0, fd0, some l0, er0, tm0⟩ ∧ lStep T R ⟨ph0, seq0, j0, fd0, some l0, er0, tm0⟩ W st = r ∧ mvB ⟨ph0, seq0, j0, fd0, some l0, er0, tm0⟩ W = true ∧ j0 ≤ 8 := ⟨hb, hlc, hst, hmv, hi8⟩
  obtain ⟨⟨ph', seq', j', fd', told', er', tm'⟩, wd', vl'⟩ := r
  dsimp only at e0 a1 a2 a3 a4 hc1 ht2
  subst ht2
  refine ⟨⟨T, R, 0, f00, ⟨f00, 0, 0⟩, true, ⟨ph0, seq0, j0, fd0, some l0, er0, tm0⟩, ⟨⟨ph', seq', j', fd', some l', er', tm'⟩, wd', vl'⟩, 0, 7⟩, ?_⟩
  have hX := hXFf ⟨T, R, 0, f00, ⟨f00, 0, 0⟩, true, ⟨ph0, seq0, j0, fd0, some l0, er0, tm0⟩, ⟨⟨ph', seq', j', fd', some l', er', tm'⟩, wd', vl'⟩, 0, 7⟩
  have iv : FInv T R N (cRem 1 12 key) 0 ⟨i + 1, ⟨W, st + 1, 1, wd', vl', false, f, ⟨ph', seq', j', fd', some l', er', tm'⟩, n0, n1⟩, sq⟩ := ⟨fb_st hb (by omega), by dsimp only; omega, hfc, hc1 e0, hk, hsq, hs0, by dsimp only; omega, hfa, a1 e0, (fun q => absurd q (by decide)), (fun q => absurd q (by decide)), by dsimp only; omega, by dsimp only; omega, by dsimp only; omega, by dsimp only; omega, by dsimp only; omega, by dsimp only; omega⟩
  have J := J ⟨T, R, 0, f00, ⟨f00, 0, 0⟩, true, ⟨ph0, seq0, j0, fd0, some l0, er0, tm0⟩, ⟨⟨ph', seq', j', fd', some l', er', tm'⟩, wd', vl'⟩, 0, 7⟩ _ iv rfl
  dsimp only [ffT, fK, ffH] at J
  dsimp only [FU, ffU, fKa, ffH, acO]
  refine sx hX [] 4000 rfl (by (simp [-List.getD_eq_getElem?_getD, -List.length_eq_zero_iff, conjP, hP.1, hP.2.1, hP.2.2.1, hP.2.2.2.1, hi8])) ?_
  refine sx hX [.F] 4000 rfl (by (simp [-List.getD_eq_getElem?_getD, -List.length_eq_zero_iff, conjP, addOP, e0])) ?_
  (refine J _ _ _ (sub_of [0, 1, 2, 3, 4, 5, 6, 10, 8] rfl rfl rfl rfl ?tt ?hh ?ot ?ok); (case tt => simp only [ewi]; exact clhG); (case hh => exact clhG); (case ot => exact clkG); (case ok => exact clkG))
set_option maxHeartbeats 4000000 in
theorem liF (h : FInv T R N (cRem 1 12 key) 1 x) (hin : x.i < N) (hi : x.i < 100) {a : Nat} (ht : x.z.l.told = none) (hmv : mvB x.z.l x.z.W = false) {r : LR} (hst : lStep T R x.z.l x.z.W x.z.st = r) (ht2 : r.s.told = none) (e0 : r.s.ph = 0) (e1 : r.s.er = 0)
    (J : ∀ p, FJ p T R N cap key o x ρ w I) : ∃ p, FU 36 a p T R N cap key o x ρ w I := by
  have hk := h.fk
  have hs2 := h.s2
  have hsq := h.sq
  have hs0 := h.s0
  have hs1 := h.s1
  have hm0 := h.m0
  have hm1 := h.m1
  have hm2 := h.m2
  have hm3 := h.m3
  have hb := h.b
  have hfa := h.fa
  have hla := h.la
  have hfo := h.fo
  have hlo := h.lo
  have hfc := h.fc
  have hlc := h.lc
  obtain ⟨i, ⟨W, st, kd, wd, vl, ch, f, l, n0, n1⟩, sq⟩ := x
  obtain ⟨ph0, seq0, j0, fd0, told0, er0, tm0⟩ := l
  dsimp only at hin hi hst ht hmv hk hs2 hsq hs0 hs1 hm0 hm1 hm2 hm3 hb hfa hla hfo hlo hfc hlc
  subst ht
  have t1 := hb.t1
  have t8 := hb.t8
  have r1 := hb.r1
  have r4 := hb.r4
  have hl := hb.hl
  have st0 := hb.s0
  have hr := right_FR t1 t8 r1 r4
  have fi1 : (i : Int) < (N : Int) := by omega
  have fi2 : (i : Int) < 100 := by omega
  have ewi : IntKind.i64.wrap ((i : Int) + 1) = ((i + 1 : Nat) : Int) := by rw [wi64 (by omega) (by omega)]; omega
  rw [← hsq] at hla hlo
  obtain ⟨a1, a2, a3, a4⟩ := la_step hlc hla (fun q => hlo rfl q) hst
  rw [hsq] at hla hlo a1
  have hi8 : j0 ≤ 8 := by have h3 : j0 ≤ T := hla.2.2.2.1; omega
  have hc1 : r.s.ph ≠ 0 → LC T R r.s := fun q => by rw [← hst] at q ⊢; exact lStep_c hb hlc q
  have hP : FB T R W st ∧ LC T R ⟨ph0, seq0, j0, fd0, none, er0, tm0⟩ ∧ lStep T R ⟨ph0, seq0, j0, fd0, none, er0, tm0⟩ W st = r ∧ mvB ⟨ph0, seq0, j0, fd0, none, er0, tm0⟩ W = false := ⟨hb, hlc, hst, hmv⟩
  obtain ⟨⟨ph', seq', j', fd', told', er', tm'⟩, wd', vl'⟩ := r
  dsimp only at e0 e1 a1 a2 a3 a4 hc1 ht2
  subst ht2
  subst e0; subst e1
  have eL : lsC (T : Int) R 6 10 ⟨0, seq', j', fd', none, 0, tm'⟩ = lsC (T : Int) R 6 7 ⟨0, seq', j', fd', none, 0, tm'⟩ := rfl
  refine ⟨⟨T, R, 0, f00, ⟨f00, 0, 0⟩, false, ⟨ph0, seq0, j0, fd0, none, er0, tm0⟩, ⟨⟨0, seq', j', fd', none, 0, tm'⟩, wd', vl'⟩, 0, 7⟩, ?_⟩
  have hX := hXFf ⟨T, R, 0, f00, ⟨f00, 0, 0⟩, false, ⟨ph0, seq0, j0, fd0, none, er0, tm0⟩, ⟨⟨0, seq', j', fd', none, 0, tm'⟩, wd', vl'⟩, 0, 7⟩
  have iv : FInv T R N (cRem 1 12 key) 0 ⟨i + 1, ⟨W, st + 1, 1, wd', vl', false, f, ⟨1, 0, 0, 0, none, 0, 0⟩, n0, 0⟩, sq⟩ := ⟨fb_st hb (by omega), by dsimp only; omega, hfc, lc_new r1, hk, hsq, hs0, by dsimp only; omega, hfa, la_new, (fun q => absurd q (by decide)), (fun q => absurd q (by decide)), by dsimp only; omega, by dsimp only; omega, by dsimp only; omega, by dsimp only; omega, by dsimp only; omega, by dsimp only; omega⟩
  have J := J ⟨T, R, 0, f00, ⟨f00, 0, 0⟩, false, ⟨ph0, seq0, j0, fd0, none, er0, tm0⟩, ⟨⟨0, seq', j', fd', none, 0, tm'⟩, wd', vl'⟩, 0, 7⟩ _ iv rfl
  dsimp only [ffT, fK, ffH] at J
  dsimp only [FU, ffU, fKa, ffH, acO]
  refine sx hX [] 4000 rfl (by (simp [-List.getD_eq_getElem?_getD, -List.length_eq_zero_iff, conjP, hP.1, hP.2.1, hP.2.2.1, hP.2.2.2])) ?_
  refine sx hX [.T] 4000 rfl (by (simp [-List.getD_eq_getElem?_getD, -List.length_eq_zero_iff, conjP, eL])) ?_
  refine sx hX [.F] 4000 rfl (by (simp [-List.getD_eq_getElem?_getD, -List.length_eq_zero_iff, conjP, addOP])) ?_
  refine sx hX [.T] 4000 rfl (by (simp [-List.getD_eq_getElem?_getD, -List.length_eq_zero_iff, conjP, addOP])) ?_
  refine sx hX [.F] 4000 rfl (by (simp [-List.getD_eq_getElem?_getD, -List.length_eq_zero_iff, conjP, addOP])) ?_
  refine sx hX [.F] 4000 rfl (by (simp [-List.getD_eq_getElem?_getD, -List.length_eq_zero_iff, conjP, hr])) ?_
  (refine J _ _ _ (sub_of [0, 1, 2, 3, 4, 5, 12, 7, 8] rfl rfl rfl rfl ?tt ?hh ?ot ?ok); (case tt => simp only [ewi]; exact clhG); (case hh => exact clhG); (case ot => exact clkG); (case ok => exact clkG))
set_option maxHeartbeats 4000000 in
theorem liG (h : FInv T R N (cRem 1 12 key) 1 x) (hin : x.i < N) (hi : x.i < 100) {a : Nat} {l0 : List Int} (ht : x.z.l.told = some l0) (hmv : mvB x.z.l x.z.W = false) {r : LR} (hst : lStep T R x.z.l x.z.W x.z.st = r) (ht2 : r.s.told = some l0) (e0 : r.s.ph = 0) (e1 : r.s.er = 0)
    (J : ∀ p, FJ p T R N cap key o x ρ w I) : ∃ p, FU 36 a p T R N cap key o x ρ w I := by
  have hk := h.fk
  have hs2 := h.s2
  have hsq := h.sq
  have hs0 := h.s0
  have hs1 := h.s1
  have hm0 := h.m0
  have hm1 := h.m1
  have hm2 := h.m2
  have hm3 := h.m3
  have hb := h.b
  have hfa := h.fa
  have hla := h.la
  have hfo := h.fo
  have hlo := h.lo
  have hfc := h.fc
  have hlc := h.lc
  obtain ⟨i, ⟨W, st, kd, wd, vl, ch, f, l, n0, n1⟩, sq⟩ := x
  obtain ⟨ph0, seq0, j0, fd0, told0, er0, tm0⟩ := l
  dsimp only at hin hi hst ht hmv hk hs2 hsq hs0 hs1 hm0 hm1 hm2 hm3 hb hfa hla hfo hlo hfc hlc
  subst ht
  have t1 := hb.t1
  have t8 := hb.t8
  have r1 := hb.r1
  have r4 := hb.r4
  have hl := hb.hl
  have st0 := hb.s0
  have hr := right_FR t1 t8 r1 r4
  have fi1 : (i : Int) < (N : Int) := by omega
  have fi2 : (i : Int) < 100 := by omega
  have ewi : IntKind.i64.wrap ((i : Int) + 1) = ((i + 1 : Nat) : Int) := by rw [wi64 (by omega) (by omega)]; omega
  rw [← hsq] at hla hlo
  obtain ⟨a1, a2, a3, a4⟩ := la_step hlc hla (fun q => hlo rfl q) hst
  rw [hsq] at hla hlo a1
  have hi8 : j0 ≤ 8 := by have h3 : j0 ≤ T := hla.2.2.2.1; omega
  have hc1 : r.s.ph ≠ 0 → LC T R r.s := fun q => by rw [← hst] at q ⊢; exact lStep_c hb hlc q
  have hP : FB T R W st ∧ LC T R ⟨ph0, seq0, j0, fd0, some l0, er0, tm0⟩ ∧ lStep T R ⟨ph0, seq0, j0, fd0, some l0, er0, tm0⟩ W st = r ∧ mvB ⟨ph0, seq0, j0, fd0, some l0, er0, tm0⟩ W = false ∧ j0 ≤ 8 := ⟨hb, hlc, hst, hmv, hi8⟩
  obtain ⟨⟨ph', seq', j', fd', told', er', tm'⟩, wd', vl'⟩ := r
  dsimp only at e0 e1 a1 a2 a3 a4 hc1 ht2
  subst ht2
  subst e0; subst e1
  have h0l : 0 < l0.length := a4 _ rfl
  have h12 : l0.length ≤ 12 := by have := hlc.tl; have h3 : (lst (some l0)).length = l0.length := rfl; have h4 : (lst (some l0)).length ≤ j0 := this; omega
  refine ⟨⟨T, R, 0, f00, ⟨f00, 0, 0⟩, false, ⟨ph0, seq0, j0, fd0, some l0, er0, tm0⟩, ⟨⟨0, seq', j', fd', some l0, 0, tm'⟩, wd', vl'⟩, 0, 7⟩, ?_⟩
  have hX := hXFf ⟨T, R, 0, f00, ⟨f00, 0, 0⟩, false, ⟨ph0, seq0, j0, fd0, some l0, er0, tm0⟩, ⟨⟨0, seq', j', fd', some l0, 0, tm'⟩, wd', vl'⟩, 0, 7⟩
  have iv : FInv T R N (cRem 1 12 key) 0 ⟨i + 1, ⟨W, st + 1, 1, wd', vl', false, f, ⟨1, 0, 0, 0, none, 0, 0⟩, n0, 0⟩, sq⟩ := ⟨fb_st hb (by omega), by dsimp only; omega, hfc, lc_new r1, hk, hsq, hs0, by dsimp only; omega, hfa, la_new, (fun q => absurd q (by decide)), (fun q => absurd q (by decide)), by dsimp only; omega, by dsimp only; omega, by dsimp only; omega, by dsimp only; omega, by dsimp only; omega, by dsimp only; omega⟩
  have J := J ⟨T, R, 0, f00, ⟨f00, 0, 0⟩, false, ⟨ph0, seq0, j0, fd0, some l0, er0, tm0⟩, ⟨⟨0, seq', j', fd', some l0, 0, tm'⟩, wd', vl'⟩, 0, 7⟩ _ iv rfl
  dsimp only [ffT, fK, ffH] at J
  dsimp only [FU, ffU, fKa, ffH, acO]
  refine sx hX [] 4000 rfl (by (simp [-List.getD_eq_getElem?_getD, -List.length_eq_zero_iff, conjP, hP.1, hP.2.1, hP.2.2.1, hP.2.2.2.1, hi8])) ?_
  refine sx hX [.T] 4000 rfl (by (simp [-List.getD_eq_getElem?_getD, -List.length_eq_zero_iff, conjP, h0l, h12])) ?_
  refine sx hX [.F] 4000 rfl (by (simp [-List.getD_eq_getElem?_getD, -List.length_eq_zero_iff, conjP, addOP])) ?_
  refine sx hX [.T] 4000 rfl (by (simp [-List.getD_eq_getElem?_getD, -List.length_eq_zero_iff, conjP, addOP])) ?_
  refine sx hX [.F] 4000 rfl (by (simp [-List.getD_eq_getElem?_getD, -List.length_eq_zero_iff, conjP, addOP])) ?_
  refine sx hX [.F] 4000 rfl (by (simp [-List.getD_eq_getElem?_getD, -List.length_eq_zero_iff, conjP, hr])) ?_
  (refine J _ _ _ (sub_of [0, 1, 2, 3, 4, 5, 13, 7, 8] rfl rfl rfl rfl ?tt ?hh ?ot ?ok); (case tt => simp only [ewi]; exact clhG); (case hh => exact clhG); (case ot => exact clkG); (case ok => exact clkG))
set_option maxHeartbeats 4000000 in
theorem liH (h : FInv T R N (cRem 1 12 key) 1 x) (hin : x.i < N) (hi : x.i < 100) {a : Nat} (ht : x.z.l.told = none) (hmv : mvB x.z.l x.z.W = false) {r : LR} (hst : lStep T R x.z.l x.z.W x.z.st = r) (ht2 : r.s.told = none) (e0 : r.s.ph = 0) (e1 : ¬ r.s.er = 0)
    (J : ∀ p, FJ p T R N cap key o x ρ w I) : ∃ p, FU 36 a p T R N cap key o x ρ w I := by
  have hk := h.fk
  have hs2 := h.s2
  have hsq := h.sq
  have hs0 := h.s0
  have hs1 := h.s1
  have hm0 := h.m0
  have hm1 := h.m1
  have hm2 := h.m2
  have hm3 := h.m3
  have hb := h.b
  have hfa := h.fa
  have hla := h.la
  have hfo := h.fo
  have hlo := h.lo
  have hfc := h.fc
  have hlc := h.lc
  obtain ⟨i, ⟨W, st, kd, wd, vl, ch, f, l, n0, n1⟩, sq⟩ := x
  obtain ⟨ph0, seq0, j0, fd0, told0, er0, tm0⟩ := l
  dsimp only at hin hi hst ht hmv hk hs2 hsq hs0 hs1 hm0 hm1 hm2 hm3 hb hfa hla hfo hlo hfc hlc
  subst ht
  have t1 := hb.t1
  have t8 := hb.t8
  have r1 := hb.r1
  have r4 := hb.r4
  have hl := hb.hl
  have st0 := hb.s0
  have hr := right_FR t1 t8 r1 r4
  have fi1 : (i : Int) < (N : Int) := by omega
  have fi2 : (i : Int) < 100 := by omega
  have ewi : IntKind.i64.wrap ((i : Int) + 1) = ((i + 1 : Nat) : Int) := by rw [wi64 (by omega) (by omega)]; omega
  rw [← hsq] at hla hlo
  obtain ⟨a1, a2, a3, a4⟩ := la_step hlc hla (fun q => hlo rfl q) hst
  rw [hsq] at hla hlo a1
  have hi8 : j0 ≤ 8 := by have h3 : j0 ≤ T := hla.2.2.2.1; omega
  have hc1 : r.s.ph ≠ 0 → LC T R r.s := fun q => by rw [← hst] at q ⊢; exact lStep_c hb hlc q
  have hP : FB T R W st ∧ LC T R ⟨ph0, seq0, j0, fd0, none, er0, tm0⟩ ∧ lStep T R ⟨ph0, seq0, j0, fd0, none, er0, tm0⟩ W st = r ∧ mvB ⟨ph0, seq0, j0, fd0, none, er0, tm0⟩ W = false := ⟨hb, hlc, hst, hmv⟩
  obtain ⟨⟨ph', seq', j', fd', told', er', tm'⟩, wd', vl'⟩ := r
  dsimp only at e0 e1 a1 a2 a3 a4 hc1 ht2
  subst ht2
  subst e0
  have e17 : er' = 17 := by rcases (a2 rfl).2 with q | q <;> omega
  have e17n : ¬ n1 < R := by have := (a2 rfl).1 e17; omega
  have eL : lsC (T : Int) R 6 10 ⟨0, seq', j', fd', none, er', tm'⟩ = lsC (T : Int) R 6 7 ⟨0, seq', j', fd', none, er', tm'⟩ := rfl
  have eL2 : lsC (T : Int) R 6 10 ⟨0, seq', j', fd', none, 17, tm'⟩ = lsC (T : Int) R 6 7 ⟨0, seq', j', fd', none, 17, tm'⟩ := rfl
  refine ⟨⟨T, R, 0, f00, ⟨f00, 0, 0⟩, false, ⟨ph0, seq0, j0, fd0, none, er0, tm0⟩, ⟨⟨0, seq', j', fd', none, er', tm'⟩, wd', vl'⟩, 1, 7⟩, ?_⟩
  have hX := hXFf ⟨T, R, 0, f00, ⟨f00, 0, 0⟩, false, ⟨ph0, seq0, j0, fd0, none, er0, tm0⟩, ⟨⟨0, seq', j', fd', none, er', tm'⟩, wd', vl'⟩, 1, 7⟩
  have iv : FInv T R N (cRem 1 12 key) 0 ⟨i + 1, ⟨W, st + 1, 1, wd', vl', false, f, ⟨1, 0, 0, 0, none, 0, 0⟩, n0, 0⟩, sq⟩ := ⟨fb_st hb (by omega), by dsimp only; omega, hfc, lc_new r1, hk, hsq, hs0, by dsimp only; omega, hfa, la_new, (fun q => absurd q (by decide)), (fun q => absurd q (by decide)), by dsimp only; omega, by dsimp only; omega, by dsimp only; omega, by dsimp only; omega, by dsimp only; omega, by dsimp only; omega⟩
  have J := J ⟨T, R, 0, f00, ⟨f00, 0, 0⟩, false, ⟨ph0, seq0, j0, fd0, none, er0, tm0⟩, ⟨⟨0, seq', j', fd', none, er', tm'⟩, wd', vl'⟩, 1, 7⟩ _ iv rfl
  dsimp only [ffT, fK, ffH] at J
  dsimp only [FU, ffU, fKa, ffH, acO]
  refine sx hX [] 4000 rfl (by (simp [-List.getD_eq_getElem?_getD, -List.length_eq_zero_iff, conjP, hP.1, hP.2.1, hP.2.2.1, hP.2.2.2, e17])) ?_
  refine sx hX [.T] 4000 rfl (by (simp [-List.getD_eq_getElem?_getD, -List.length_eq_zero_iff, conjP, e17, eL2])) ?_
  refine sx hX [.T] 4000 rfl (by (simp [-List.getD_eq_getElem?_getD, -List.length_eq_zero_iff, conjP, e17])) ?_
  refine sx hX [.F] 4000 rfl (by (simp [-List.getD_eq_getElem?_getD, -List.length_eq_zero_iff, conjP, e17n, gw1])) ?_
  refine sx hX [.F] 4000 rfl (by (simp [-List.getD_eq_getElem?_getD, -List.length_eq_zero_iff, conjP, addOP, e17])) ?_
  refine sx hX [.F] 4000 rfl (by (simp [-List.getD_eq_getElem?_getD, -List.length_eq_zero_iff, conjP, hr])) ?_
  (refine J _ _ _ (sub_of [0, 1, 2, 3, 4, 5, 12, 7, 8] rfl rfl rfl rfl ?tt ?hh ?ot ?ok); (case tt => simp only [ewi]; exact clhG); (case hh => exact clhG); (case ot => exact clkG); (case ok => exact clkG))
set_option maxHeartbeats 4000000 in
theorem liI (h : FInv T R N (cRem 1 12 key) 1 x) (hin : x.i < N) (hi : x.i < 100) {a : Nat} {l0 : List Int} (ht : x.z.l.told = some l0) (hmv : mvB x.z.l x.z.W = false) {r : LR} (hst : lStep T R x.z.l x.z.W x.z.st = r) (ht2 : r.s.told = none) (e0 : r.s.ph = 0) (e1 : ¬ r.s.er = 0)
    (J : ∀ p, FJ p T R N cap key o x ρ w I) : ∃ p, FU 36 a p T R N cap key o x ρ w I := by
  have hk := h.fk
  have hs2 := h.s2
  have hsq := h.sq
  have hs0 := h.s0
  have hs1 := h.s1
  have hm0 := h.m0
  have hm1 := h.m1
  have hm2 := h.m2
  have hm3 := h.m3
  have hb := h.b
  have hfa := h.fa
  have hla := h.la
  have hfo := h.fo
  have hlo := h.lo
  have hfc := h.fc
  have hlc := h.lc
  obtain ⟨i, ⟨W, st, kd, wd, vl, ch, f, l, n0, n1⟩, sq⟩ := x
  obtain ⟨ph0, seq0, j0, fd0, told0, er0, tm0⟩ := l
  dsimp only at hin hi hst ht hmv hk hs2 hsq hs0 hs1 hm0 hm1 hm2 hm3 hb hfa hla hfo hlo hfc hlc
  subst ht
  have t1 := hb.t1
  have t8 := hb.t8
  have r1 := hb.r1
  have r4 := hb.r4
  have hl := hb.hl
  have st0 := hb.s0
  have hr := right_FR t1 t8 r1 r4
  have fi1 : (i : Int) < (N : Int) := by omega
  have fi2 : (i : Int) < 100 := by omega
  have ewi : IntKind.i64.wrap ((i : Int) + 1) = ((i + 1 : Nat) : Int) := by rw [wi64 (by omega) (by omega)]; omega
  rw [← hsq] at hla hlo
  obtain ⟨a1, a2, a3, a4⟩ := la_step hlc hla (fun q => hlo rfl q) hst
  rw [hsq] at hla hlo a1
  have hi8 : j0 ≤ 8 := by have h3 : j0 ≤ T := hla.2.2.2.1; omega
  have hc1 : r.s.ph ≠ 0 → LC T R r.s := fun q => by rw [← hst] at q ⊢; exact lStep_c hb hlc q
  have hP : FB T R W st ∧ LC T R ⟨ph0, seq0, j0, fd0, some l0, er0, tm0⟩ ∧ lStep T R ⟨ph0, seq0, j0, fd0, some l0, er0, tm0⟩ W st = r ∧ mvB ⟨ph0, seq0, j0, fd0, some l0, er0, tm0⟩ W = false ∧ j0 ≤ 8 := ⟨hb, hlc, hst, hmv, hi8⟩
  obtain ⟨⟨ph', seq', j', fd', told', er', tm'⟩, wd', vl'⟩ := r
  dsimp only at e0 e1 a1 a2 a3 a4 hc1 ht2
  subst ht2
  subst e0
  have e17 : er' = 17 := by rcases (a2 rfl).2 with q | q <;> omega
  have e17n : ¬ n1 < R := by have := (a2 rfl).1 e17; omega
  refine ⟨⟨T, R, 0, f00, ⟨f00, 0, 0⟩, false, ⟨ph0, seq0, j0, fd0, some l0, er0, tm0⟩, ⟨⟨0, seq', j', fd', none, er', tm'⟩, wd', vl'⟩, 1, 7⟩, ?_⟩
  have hX := hXFf ⟨T, R, 0, f00, ⟨f00, 0, 0⟩, false, ⟨ph0, seq0, j0, fd0, some l0, er0, tm0⟩, ⟨⟨0, seq', j', fd', none, er', tm'⟩, wd', vl'⟩, 1, 7⟩
  have iv : FInv T R N (cRem 1 12 key) 0 ⟨i + 1, ⟨W, st + 1, 1, wd', vl', false, f, ⟨1, 0, 0, 0, none, 0, 0⟩, n0, 0⟩, sq⟩ := ⟨fb_st hb (by omega), by dsimp only; omega, hfc, lc_new r1, hk, hsq, hs0, by dsimp only; omega, hfa, la_new, (fun q => absurd q (by decide)), (fun q => absurd q (by decide)), by dsimp only; omega, by dsimp only; omega, by dsimp only; omega, by dsimp only; omega, by dsimp only; omega, by dsimp only; omega⟩
  have J := J ⟨T, R, 0, f00, ⟨f00, 0, 0⟩, false, ⟨ph0, seq0, j0, fd0, some l0, er0, tm0⟩, ⟨⟨0, seq', j', fd', none, er', tm'⟩, wd', vl'⟩, 1, 7⟩ _ iv rfl
  dsimp only [ffT, fK, ffH] at J
  dsimp only [FU, ffU, fKa, ffH, acO]
  refine sx hX [] 4000 rfl (by (simp [-List.getD_eq_getElem?_getD, -List.length_eq_zero_iff, conjP, hP.1, hP.2.1, hP.2.2.1, hP.2.2.2.1, hi8, e17])) ?_
  refine sx hX [.T] 4000 rfl (by (simp [-List.getD_eq_getElem?_getD, -List.length_eq_zero_iff, conjP, e17])) ?_
  refine sx hX [.T] 4000 rfl (by (simp [-List.getD_eq_getElem?_getD, -List.length_eq_zero_iff, conjP, e17])) ?_
  refine sx hX [.F] 4000 rfl (by (simp [-List.getD_eq_getElem?_getD, -List.length_eq_zero_iff, conjP, e17n, gw1])) ?_
  refine sx hX [.F] 4000 rfl (by (simp [-List.getD_eq_getElem?_getD, -List.length_eq_zero_iff, conjP, addOP, e17])) ?_
  refine sx hX [.F] 4000 rfl (by (simp [-List.getD_eq_getElem?_getD, -List.length_eq_zero_iff, conjP, hr])) ?_
  (refine J _ _ _ (sub_of [0, 1, 2, 3, 4, 5, 12, 7, 8] rfl rfl rfl rfl ?tt ?hh ?ot ?ok); (case tt => simp only [ewi]; exact clhG); (case hh => exact clhG); (case ot => exact clkG); (case ok => exact clkG))
end
end Go.Proofs.YtkkddjchkkaagaaGreatDoor
