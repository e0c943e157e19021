/- FindFails: a turn: up to what it is. -/
import Derived.Test.YtkkddjchkkaagaaGreatDoorFailsWorld
namespace Go.Proofs.YtkkddjchkkaagaaGreatDoor
open Go Go.Hx
set_option maxRecDepth 8000
theorem fb_set {T : Nat} {R st v : Int} {W : List Int} {k : Nat} (B : FB T R W st) (h : st + 1 < 1000000) (v0 : 0 ≤ v) (v1 : v < 18446744073709551616) : FB T R (W.set k v) (st + 1) :=
  ⟨B.t1, B.t8, B.r1, B.r4, by rw [List.length_set]; exact B.hl, fun j => by
    rw [List.getD_eq_getElem?_getD, List.getElem?_set]
    split
    · split
      · exact ⟨v0, v1⟩
      · simp
    · rw [← List.getD_eq_getElem?_getD]; exact B.hw j, by have := B.s0; omega, h⟩
theorem fb_st {T : Nat} {R st : Int} {W : List Int} (B : FB T R W st) (h : st + 1 < 1000000) : FB T R W (st + 1) := ⟨B.t1, B.t8, B.r1, B.r4, B.hl, B.hw, by have := B.s0; omega, h⟩
section
variable {T : Nat} {R : Int} {N cap : Nat} {key : Int} {o : Nat → Int × Int × Int × Bool} {x : XS} {ρ : Nat → Nat × Nat} {w : World} {I : Act → World → Prop}
set_option maxHeartbeats 4000000 in
theorem fs1e (h : FInv T R N (cRem 1 12 key) 0 x) (hin : x.i < N) (hi : x.i < 100) {a : Nat} (_ha : a < T) (ea : cMod (T : Int) (o x.i).2.1 = (a : Int)) (g : ¬ x.sq % 2 = 1)
    (J : ∀ x', FInv T R N (cRem 1 12 key) 1 x' → x'.i = x.i → ∃ p, FU 18 a p T R N cap key o x' ρ w I) : ∃ p, FG p T R N cap key o x ρ w I := by
  have hk := h.fk
  have hs2 := h.s2
  have hsq := h.sq
  have hs0 := h.s0
  have hs1 := h.s1
  have hm0 := h.m0
  have hm1 := h.m1
  have hm2 := h.m2
  have hm3 := h.m3
  have hb := h.b
  have hfa := h.fa
  have hla := h.la
  have hfo := h.fo
  have hlo := h.lo
  have hfc := h.fc
  have hlc := h.lc
  obtain ⟨i, ⟨W, st, kd, wd, vl, ch, f, l, n0, n1⟩, sq⟩ := x
  dsimp only at hin hi ea g hk hs2 hsq hs0 hs1 hm0 hm1 hm2 hm3 hb hfa hla hfo hlo hfc hlc
  have t1 := hb.t1
  have t8 := hb.t8
  have r1 := hb.r1
  have r4 := hb.r4
  have hl := hb.hl
  have st0 := hb.s0
  have hr := right_FR t1 t8 r1 r4
  have fi1 : (i : Int) < (N : Int) := by omega
  have fi2 : (i : Int) < 100 := by omega
  have ewi : IntKind.i64.wrap ((i : Int) + 1) = ((i + 1 : Nat) : Int) := by rw [wi64 (by omega) (by omega)]; omega
  have ea' : (IntKind.i64.wrap ((o i).2.1.tmod (T : Int) + (T : Int))).tmod (T : Int) = (a : Int) := ea
  have tz : ¬ (T : Int) = 0 := by omega
  have wev : sq.tmod 2 = sq % 2 := Int.tmod_eq_emod_of_nonneg hs0
  refine ⟨p00 T R, ?_⟩
  have hX := hXFf (p00 T R)
  have iv : FInv T R N (cRem 1 12 key) 1 ⟨i, ⟨W, st, kd, wd, vl, ch, f, l, n0, n1⟩, sq⟩ := ⟨hb, hs2, hfc, hlc, hk, hsq, hs0, hs1, hfa, hla, fun _ q => absurd q g, fun _ q => absurd q g, by dsimp only; omega, by dsimp only; omega, by dsimp only; omega, by dsimp only; omega, by dsimp only; omega, by dsimp only; omega⟩
  obtain ⟨pp, h1⟩ := J _ iv rfl
  dsimp only [FG, ffT, fK, ffH]
  refine sxb hX [.r 18] [] 4000 rfl (by (simp [-List.getD_eq_getElem?_getD, -List.length_eq_zero_iff, conjP])) ?_
  refine sxb hX [.r 18] [.T] 4000 rfl (by (simp [-List.getD_eq_getElem?_getD, -List.length_eq_zero_iff, conjP, addOP, fi1])) ?_
  refine sxb hX [.r 18] [.T] 4000 rfl (by (simp [-List.getD_eq_getElem?_getD, -List.length_eq_zero_iff, conjP, fi1, fi2, Int.toNat_natCast] <;> (first | omega | ((repeat' (refine And.intro ?_ ?_)) <;> (first | omega | exact decide_eq_false (by omega) | exact decide_eq_true (by omega)))))) ?_
  refine sxb hX [.r 18] [.F] 4000 rfl (by (simp [-List.getD_eq_getElem?_getD, -List.length_eq_zero_iff, conjP, addOP, wev, g])) ?_
  (try simp only; refine ss_sub hX (T' := ffU N cap key a ⟨i, ⟨W, st, kd, wd, vl, ch, f, l, n0, n1⟩, sq⟩) (H' := fKa N o T R ⟨i, ⟨W, st, kd, wd, vl, ch, f, l, n0, n1⟩, sq⟩) [0, 1, 2, 3, 4, 5, 6, 7, 8, 9] rfl rfl rfl rfl ?tt ?hh ?ot ?ok (ss_sw hX (sw_ss (hXFf pp) (cs := []) h1)); (case tt => exact clhG); (case hh => exact clhG); (case ot => exact clkG); (case ok => exact clkG))
set_option maxHeartbeats 4000000 in
theorem fs1o (h : FInv T R N (cRem 1 12 key) 0 x) (hin : x.i < N) (hi : x.i < 100) {a : Nat} (_ha : a < T) (ea : cMod (T : Int) (o x.i).2.1 = (a : Int)) (g : x.sq % 2 = 1)
    (J : ∀ x', FInv T R N (cRem 1 12 key) 1 x' → x'.i = x.i → ∃ p, FU 18 a p T R N cap key o x' ρ w I) : ∃ p, FG p T R N cap key o x ρ w I := by
  have hk := h.fk
  have hs2 := h.s2
  have hsq := h.sq
  have hs0 := h.s0
  have hs1 := h.s1
  have hm0 := h.m0
  have hm1 := h.m1
  have hm2 := h.m2
  have hm3 := h.m3
  have hb := h.b
  have hfa := h.fa
  have hla := h.la
  have hfo := h.fo
  have hlo := h.lo
  have hfc := h.fc
  have hlc := h.lc
  obtain ⟨i, ⟨W, st, kd, wd, vl, ch, f, l, n0, n1⟩, sq⟩ := x
  dsimp only at hin hi ea g hk hs2 hsq hs0 hs1 hm0 hm1 hm2 hm3 hb hfa hla hfo hlo hfc hlc
  have t1 := hb.t1
  have t8 := hb.t8
  have r1 := hb.r1
  have r4 := hb.r4
  have hl := hb.hl
  have st0 := hb.s0
  have hr := right_FR t1 t8 r1 r4
  have fi1 : (i : Int) < (N : Int) := by omega
  have fi2 : (i : Int) < 100 := by omega
  have ewi : IntKind.i64.wrap ((i : Int) + 1) = ((i + 1 : Nat) : Int) := by rw [wi64 (by omega) (by omega)]; omega
  have en0 : IntKind.i64.wrap (n0 + 1) = n0 + 1 := wi64 (by omega) (by omega)
  have en1 : IntKind.i64.wrap (n1 + 1) = n1 + 1 := wi64 (by omega) (by omega)
  have e2 : [IntKind.i64.wrap (n0 + 1), IntKind.i64.wrap (n1 + 1)] = [n0 + 1, n1 + 1] := by rw [en0, en1]
  have ea' : (IntKind.i64.wrap ((o i).2.1.tmod (T : Int) + (T : Int))).tmod (T : Int) = (a : Int) := ea
  have tz : ¬ (T : Int) = 0 := by omega
  have wev : sq.tmod 2 = sq % 2 := Int.tmod_eq_emod_of_nonneg hs0
  refine ⟨p00 T R, ?_⟩
  have hX := hXFf (p00 T R)
  have iv : FInv T R N (cRem 1 12 key) 1 ⟨i, ⟨W, st, kd, wd, vl, ch, f, l, n0 + 1, n1 + 1⟩, sq⟩ := ⟨hb, hs2, hfc, hlc, hk, hsq, hs0, hs1, ⟨by have := hfa.1; dsimp only; omega, fun a b => by have := hfa.2.1 a b; dsimp only; omega, hfa.2.2⟩, ⟨by have := hla.1; dsimp only; omega, fun a b => by have := hla.2.1 a b; dsimp only; omega, hla.2.2⟩, fun _ _ => by have := hfa.1; dsimp only; omega, fun _ _ => by have := hla.1; dsimp only; omega, by dsimp only; omega, by dsimp only; omega, by dsimp only; omega, by dsimp only; omega, by dsimp only; omega, by dsimp only; omega⟩
  obtain ⟨pp, h1⟩ := J _ iv rfl
  dsimp only [FG, ffT, fK, ffH]
  refine sxb hX [.r 18] [] 4000 rfl (by (simp [-List.getD_eq_getElem?_getD, -List.length_eq_zero_iff, conjP])) ?_
  refine sxb hX [.r 18] [.T] 4000 rfl (by (simp [-List.getD_eq_getElem?_getD, -List.length_eq_zero_iff, conjP, addOP, fi1])) ?_
  refine sxb hX [.r 18] [.T] 4000 rfl (by (simp [-List.getD_eq_getElem?_getD, -List.length_eq_zero_iff, conjP, fi1, fi2, Int.toNat_natCast] <;> (first | omega | ((repeat' (refine And.intro ?_ ?_)) <;> (first | omega | exact decide_eq_false (by omega) | exact decide_eq_true (by omega)))))) ?_
  refine sxb hX [.r 18] [.T] 4000 rfl (by (simp [-List.getD_eq_getElem?_getD, -List.length_eq_zero_iff, conjP, wev, g])) ?_
  (try simp only; refine ss_sub hX (T' := ffU N cap key a ⟨i, ⟨W, st, kd, wd, vl, ch, f, l, n0 + 1, n1 + 1⟩, sq⟩) (H' := fKa N o T R ⟨i, ⟨W, st, kd, wd, vl, ch, f, l, n0 + 1, n1 + 1⟩, sq⟩) [0, 1, 2, 3, 4, 5, 6, 7, 8, 9] rfl rfl rfl rfl ?tt ?hh ?ot ?ok (ss_sw hX (sw_ss (hXFf pp) (cs := []) h1)); (case tt => exact clhG); (case hh => exact clhG); (case ot => exact clkG); (case ok => exact clkG))
end
end Go.Proofs.YtkkddjchkkaagaaGreatDoor

/- FindFails: a turn that lays something, or looks. -/
namespace Go.Proofs.YtkkddjchkkaagaaGreatDoor
open Go Go.Hx
set_option maxRecDepth 8000
section
variable {T : Nat} {R : Int} {N cap : Nat} {key : Int} {o : Nat → Int × Int × Int × Bool} {x : XS} {ρ : Nat → Nat × Nat} {w : World} {I : Act → World → Prop}
set_option maxHeartbeats 4000000 in
theorem fk5 (h : FInv T R N (cRem 1 12 key) 1 x) (hin : x.i < N) (hi : x.i < 100) {a : Nat} (ha : a < T) (hm : ibits .and .i64 (o x.i).1 7 = 5)
    (J : ∀ p, FJ p T R N cap key o x ρ w I) : ∃ p, FU 18 a p T R N cap key o x ρ w I := by
  have hk := h.fk
  have hs2 := h.s2
  have hsq := h.sq
  have hs0 := h.s0
  have hs1 := h.s1
  have hm0 := h.m0
  have hm1 := h.m1
  have hm2 := h.m2
  have hm3 := h.m3
  have hb := h.b
  have hfa := h.fa
  have hla := h.la
  have hfo := h.fo
  have hlo := h.lo
  have hfc := h.fc
  have hlc := h.lc
  obtain ⟨i, ⟨W, st, kd, wd, vl, ch, f, l, n0, n1⟩, sq⟩ := x
  dsimp only at hin hi hm hk hs2 hsq hs0 hs1 hm0 hm1 hm2 hm3 hb hfa hla hfo hlo hfc hlc
  have t1 := hb.t1
  have t8 := hb.t8
  have r1 := hb.r1
  have r4 := hb.r4
  have hl := hb.hl
  have st0 := hb.s0
  have hr := right_FR t1 t8 r1 r4
  have fi1 : (i : Int) < (N : Int) := by omega
  have fi2 : (i : Int) < 100 := by omega
  have ewi : IntKind.i64.wrap ((i : Int) + 1) = ((i + 1 : Nat) : Int) := by rw [wi64 (by omega) (by omega)]; omega
  have en := fent_at (R := R) ha
  have el := fP_lt' hl ha
  have e0 := (enV_r (k := (o i).2.2.1) (b := (o i).2.2.2)).1
  have e1 := (enV_r (k := (o i).2.2.1) (b := (o i).2.2.2)).2
  have g2 : (W.set (fP a) (enV (o i).2.2.1 (o i).2.2.2)).getD 2 0 = sq := by
    rw [List.getD_eq_getElem?_getD, List.getElem?_set_ne (by unfold fP; omega), ← List.getD_eq_getElem?_getD]; exact hsq
  refine ⟨p00 T R, ?_⟩
  have hX := hXFf (p00 T R)
  have iv : FInv T R N (cRem 1 12 key) 0 ⟨i + 1, ⟨(W.set (fP a) (enV (o i).2.2.1 (o i).2.2.2)), st + 1, 2, (fP a : Int), (enV (o i).2.2.1 (o i).2.2.2), true, f, l, n0, n1⟩, sq⟩ := ⟨fb_set hb (by omega) enV_r.1 enV_r.2, by dsimp only; omega, hfc, hlc, hk, g2, hs0, by dsimp only; omega, hfa, hla, (fun q => absurd q (by decide)), (fun q => absurd q (by decide)), by dsimp only; omega, by dsimp only; omega, by dsimp only; omega, by dsimp only; omega, by dsimp only; omega, by dsimp only; omega⟩
  have J := J (p00 T R) _ iv rfl
  dsimp only [ffT, fK, ffH] at J
  dsimp only [FU, ffU, fKa, ffH, acO]
  refine sx hX [] 4000 rfl (by (simp [-List.getD_eq_getElem?_getD, -List.length_eq_zero_iff, conjP])) ?_
  refine sx hX [.T] 4000 rfl (by (simp [-List.getD_eq_getElem?_getD, -List.length_eq_zero_iff, conjP, getH, HE.so, hm, hr, en, el] <;> (first | omega | ((repeat' (refine And.intro ?_ ?_)) <;> (first | omega | exact decide_eq_false (by omega) | exact decide_eq_true (by omega)))))) ?_
  (refine J _ _ _ (sub_of [0, 1, 2, 3, 4, 5, 6, 7, 8] rfl rfl rfl rfl ?tt ?hh ?ot ?ok); (case tt => simp only [ewi, en]; exact clhG); (case hh => (try simp only [en, Int.toNat_natCast]); exact clhG); (case ot => exact clkG); (case ok => exact clkG))
set_option maxHeartbeats 4000000 in
theorem fk6 (h : FInv T R N (cRem 1 12 key) 1 x) (hin : x.i < N) (hi : x.i < 100) {a : Nat} (_ha : a < T) (hm : ibits .and .i64 (o x.i).1 7 = 6)
    (J : ∀ p, FJ p T R N cap key o x ρ w I) : ∃ p, FU 18 a p T R N cap key o x ρ w I := by
  have hk := h.fk
  have hs2 := h.s2
  have hsq := h.sq
  have hs0 := h.s0
  have hs1 := h.s1
  have hm0 := h.m0
  have hm1 := h.m1
  have hm2 := h.m2
  have hm3 := h.m3
  have hb := h.b
  have hfa := h.fa
  have hla := h.la
  have hfo := h.fo
  have hlo := h.lo
  have hfc := h.fc
  have hlc := h.lc
  obtain ⟨i, ⟨W, st, kd, wd, vl, ch, f, l, n0, n1⟩, sq⟩ := x
  dsimp only at hin hi hm hk hs2 hsq hs0 hs1 hm0 hm1 hm2 hm3 hb hfa hla hfo hlo hfc hlc
  have t1 := hb.t1
  have t8 := hb.t8
  have r1 := hb.r1
  have r4 := hb.r4
  have hl := hb.hl
  have st0 := hb.s0
  have hr := right_FR t1 t8 r1 r4
  have fi1 : (i : Int) < (N : Int) := by omega
  have fi2 : (i : Int) < 100 := by omega
  have ewi : IntKind.i64.wrap ((i : Int) + 1) = ((i + 1 : Nat) : Int) := by rw [wi64 (by omega) (by omega)]; omega
  have en0 : IntKind.i64.wrap (n0 + 1) = n0 + 1 := wi64 (by omega) (by omega)
  have en1 : IntKind.i64.wrap (n1 + 1) = n1 + 1 := wi64 (by omega) (by omega)
  have e2 : [IntKind.i64.wrap (n0 + 1), IntKind.i64.wrap (n1 + 1)] = [n0 + 1, n1 + 1] := by rw [en0, en1]
  have ews : IntKind.u64.wrap (sq + 1) = sq + 1 := wu64 (by omega) (by omega)
  have l2 : (2 : Int) < (W.length : Int) := by omega
  have sb : sq + 1 < 18446744073709551616 := by omega
  have sa : 0 ≤ sq + 1 := by omega
  have g2 : (W.set 2 (sq + 1)).getD 2 0 = sq + 1 := by
    rw [List.getD_eq_getElem?_getD, List.getElem?_set_self (by omega)]; rfl
  refine ⟨p00 T R, ?_⟩
  have hX := hXFf (p00 T R)
  have iv : FInv T R N (cRem 1 12 key) 0 ⟨i + 1, ⟨(W.set 2 (sq + 1)), st + 1, 2, 2, (sq + 1), true, f, l, n0 + 1, n1 + 1⟩, (sq + 1)⟩ := ⟨fb_set hb (by omega) (by omega) (by omega), by dsimp only; omega, hfc, hlc, hk, g2, by dsimp only; omega, by dsimp only; omega, ⟨by have := hfa.1; dsimp only; omega, fun _ _ => by have := hfa.1; dsimp only; omega, hfa.2.2⟩, ⟨by have := hla.1; dsimp only; omega, fun _ _ => by have := hla.1; dsimp only; omega, hla.2.2⟩, (fun q => absurd q (by decide)), (fun q => absurd q (by decide)), by dsimp only; omega, by dsimp only; omega, by dsimp only; omega, by dsimp only; omega, by dsimp only; omega, by dsimp only; omega⟩
  have J := J (p00 T R) _ iv rfl
  dsimp only [ffT, fK, ffH] at J
  dsimp only [FU, ffU, fKa, ffH, acO]
  refine sx hX [] 4000 rfl (by (simp [-List.getD_eq_getElem?_getD, -List.length_eq_zero_iff, conjP])) ?_
  refine sx hX [.F] 4000 rfl (by (simp [-List.getD_eq_getElem?_getD, -List.length_eq_zero_iff, conjP, addOP, hm])) ?_
  refine sx hX [.T] 4000 rfl (by (simp [-List.getD_eq_getElem?_getD, -List.length_eq_zero_iff, conjP, hm, l2] <;> (first | omega | ((repeat' (refine And.intro ?_ ?_)) <;> (first | omega | exact decide_eq_false (by omega) | exact decide_eq_true (by omega)))))) ?_
  (refine J _ _ _ (sub_of [0, 1, 2, 3, 4, 5, 6, 7, 8] rfl rfl rfl rfl ?tt ?hh ?ot ?ok); (case tt => simp only [ewi, ews]; exact clhG); (case hh => (try simp only [ews, two_nat]); exact clhG); (case ot => exact clkG); (case ok => exact clkG))
set_option maxHeartbeats 4000000 in
theorem fk7 (h : FInv T R N (cRem 1 12 key) 1 x) (hin : x.i < N) (hi : x.i < 100) {a : Nat} (_ha : a < T) (hm : ibits .and .i64 (o x.i).1 7 = 7)
    (J : ∀ p, FJ p T R N cap key o x ρ w I) : ∃ p, FU 18 a p T R N cap key o x ρ w I := by
  have hk := h.fk
  have hs2 := h.s2
  have hsq := h.sq
  have hs0 := h.s0
  have hs1 := h.s1
  have hm0 := h.m0
  have hm1 := h.m1
  have hm2 := h.m2
  have hm3 := h.m3
  have hb := h.b
  have hfa := h.fa
  have hla := h.la
  have hfo := h.fo
  have hlo := h.lo
  have hfc := h.fc
  have hlc := h.lc
  obtain ⟨i, ⟨W, st, kd, wd, vl, ch, f, l, n0, n1⟩, sq⟩ := x
  dsimp only at hin hi hm hk hs2 hsq hs0 hs1 hm0 hm1 hm2 hm3 hb hfa hla hfo hlo hfc hlc
  have t1 := hb.t1
  have t8 := hb.t8
  have r1 := hb.r1
  have r4 := hb.r4
  have hl := hb.hl
  have st0 := hb.s0
  have hr := right_FR t1 t8 r1 r4
  have fi1 : (i : Int) < (N : Int) := by omega
  have fi2 : (i : Int) < 100 := by omega
  have ewi : IntKind.i64.wrap ((i : Int) + 1) = ((i + 1 : Nat) : Int) := by rw [wi64 (by omega) (by omega)]; omega
  have l0 : (0 : Int) < (W.length : Int) := by omega
  have z0 : Int.toNat 0 = 0 := rfl
  refine ⟨p00 T R, ?_⟩
  have hX := hXFf (p00 T R)
  have iv : FInv T R N (cRem 1 12 key) 0 ⟨i + 1, ⟨W, st + 1, 1, 0, (W.getD 0 0), false, f, l, n0, n1⟩, sq⟩ := ⟨fb_st hb (by omega), by dsimp only; omega, hfc, hlc, hk, hsq, hs0, by dsimp only; omega, hfa, hla, (fun q => absurd q (by decide)), (fun q => absurd q (by decide)), by dsimp only; omega, by dsimp only; omega, by dsimp only; omega, by dsimp only; omega, by dsimp only; omega, by dsimp only; omega⟩
  have J := J (p00 T R) _ iv rfl
  dsimp only [ffT, fK, ffH] at J
  dsimp only [FU, ffU, fKa, ffH, acO]
  refine sx hX [] 4000 rfl (by (simp [-List.getD_eq_getElem?_getD, -List.length_eq_zero_iff, conjP])) ?_
  refine sx hX [.F] 4000 rfl (by (simp [-List.getD_eq_getElem?_getD, -List.length_eq_zero_iff, conjP, addOP, hm])) ?_
  refine sx hX [.F] 4000 rfl (by (simp [-List.getD_eq_getElem?_getD, -List.length_eq_zero_iff, conjP, addOP, hm])) ?_
  refine sx hX [.T] 4000 rfl (by (simp [-List.getD_eq_getElem?_getD, -List.length_eq_zero_iff, conjP, hm] <;> (first | omega | ((repeat' (refine And.intro ?_ ?_)) <;> (first | omega | exact decide_eq_false (by omega) | exact decide_eq_true (by omega)))))) ?_
  (refine J _ _ _ (sub_of [0, 1, 2, 3, 4, 5, 6, 7, 8] rfl rfl rfl rfl ?tt ?hh ?ot ?ok); (case tt => simp only [ewi]; exact clhG); (case hh => exact clhG); (case ot => exact clkG); (case ok => exact clkG))
set_option maxHeartbeats 4000000 in
theorem fm0 (h : FInv T R N (cRem 1 12 key) 1 x) (hin : x.i < N) (hi : x.i < 100) {a : Nat} (_ha : a < T) (hm : ibits .and .i64 (o x.i).1 7 = 0)
    (J : ∃ p, FU 19 a p T R N cap key o x ρ w I) : ∃ p, FU 18 a p T R N cap key o x ρ w I := by
  have hk := h.fk
  have hs2 := h.s2
  have hsq := h.sq
  have hs0 := h.s0
  have hs1 := h.s1
  have hm0 := h.m0
  have hm1 := h.m1
  have hm2 := h.m2
  have hm3 := h.m3
  have hb := h.b
  have hfa := h.fa
  have hla := h.la
  have hfo := h.fo
  have hlo := h.lo
  have hfc := h.fc
  have hlc := h.lc
  obtain ⟨i, ⟨W, st, kd, wd, vl, ch, f, l, n0, n1⟩, sq⟩ := x
  dsimp only at hin hi hm hk hs2 hsq hs0 hs1 hm0 hm1 hm2 hm3 hb hfa hla hfo hlo hfc hlc
  have t1 := hb.t1
  have t8 := hb.t8
  have r1 := hb.r1
  have r4 := hb.r4
  have hl := hb.hl
  have st0 := hb.s0
  have hr := right_FR t1 t8 r1 r4
  have fi1 : (i : Int) < (N : Int) := by omega
  have fi2 : (i : Int) < 100 := by omega
  have ewi : IntKind.i64.wrap ((i : Int) + 1) = ((i + 1 : Nat) : Int) := by rw [wi64 (by omega) (by omega)]; omega
  refine ⟨p00 T R, ?_⟩
  have hX := hXFf (p00 T R)
  obtain ⟨pp, h1⟩ := J
  dsimp only [FU, ffU, fKa, ffH, acO] at h1 ⊢
  refine sxb hX [.r 19] [] 4000 rfl (by (simp [-List.getD_eq_getElem?_getD, -List.length_eq_zero_iff, conjP])) ?_
  refine sxb hX [.r 19] [.F] 4000 rfl (by (simp [-List.getD_eq_getElem?_getD, -List.length_eq_zero_iff, conjP, addOP, hm])) ?_
  refine sxb hX [.r 19] [.F] 4000 rfl (by (simp [-List.getD_eq_getElem?_getD, -List.length_eq_zero_iff, conjP, addOP, hm])) ?_
  refine sxb hX [.r 19] [.F] 4000 rfl (by (simp [-List.getD_eq_getElem?_getD, -List.length_eq_zero_iff, conjP, addOP, hm])) ?_
  refine sxb hX [.r 19] [.F] 4000 rfl (by (simp [-List.getD_eq_getElem?_getD, -List.length_eq_zero_iff, conjP, addOP, hm])) ?_
  refine sxb hX [.r 19] [.F] 4000 rfl (by (simp [-List.getD_eq_getElem?_getD, -List.length_eq_zero_iff, conjP, addOP, hm])) ?_
  (refine ss_sub hX (T' := ffU N cap key a ⟨i, ⟨W, st, kd, wd, vl, ch, f, l, n0, n1⟩, sq⟩) (H' := fKa N o T R ⟨i, ⟨W, st, kd, wd, vl, ch, f, l, n0, n1⟩, sq⟩) [0, 1, 2, 3, 4, 5, 6, 7, 8, 9] rfl rfl rfl rfl ?tt ?hh ?ot ?ok (ss_sw hX (sw_ss (hXFf pp) (cs := []) h1)); (case tt => exact clhG); (case hh => exact clhG); (case ot => exact clkG); (case ok => exact clkG))
set_option maxHeartbeats 4000000 in
theorem fm1 (h : FInv T R N (cRem 1 12 key) 1 x) (hin : x.i < N) (hi : x.i < 100) {a : Nat} (_ha : a < T) (hm : ibits .and .i64 (o x.i).1 7 = 1)
    (J : ∃ p, FU 19 a p T R N cap key o x ρ w I) : ∃ p, FU 18 a p T R N cap key o x ρ w I := by
  have hk := h.fk
  have hs2 := h.s2
  have hsq := h.sq
  have hs0 := h.s0
  have hs1 := h.s1
  have hm0 := h.m0
  have hm1 := h.m1
  have hm2 := h.m2
  have hm3 := h.m3
  have hb := h.b
  have hfa := h.fa
  have hla := h.la
  have hfo := h.fo
  have hlo := h.lo
  have hfc := h.fc
  have hlc := h.lc
  obtain ⟨i, ⟨W, st, kd, wd, vl, ch, f, l, n0, n1⟩, sq⟩ := x
  dsimp only at hin hi hm hk hs2 hsq hs0 hs1 hm0 hm1 hm2 hm3 hb hfa hla hfo hlo hfc hlc
  have t1 := hb.t1
  have t8 := hb.t8
  have r1 := hb.r1
  have r4 := hb.r4
  have hl := hb.hl
  have st0 := hb.s0
  have hr := right_FR t1 t8 r1 r4
  have fi1 : (i : Int) < (N : Int) := by omega
  have fi2 : (i : Int) < 100 := by omega
  have ewi : IntKind.i64.wrap ((i : Int) + 1) = ((i + 1 : Nat) : Int) := by rw [wi64 (by omega) (by omega)]; omega
  refine ⟨p00 T R, ?_⟩
  have hX := hXFf (p00 T R)
  obtain ⟨pp, h1⟩ := J
  dsimp only [FU, ffU, fKa, ffH, acO] at h1 ⊢
  refine sxb hX [.r 19] [] 4000 rfl (by (simp [-List.getD_eq_getElem?_getD, -List.length_eq_zero_iff, conjP])) ?_
  refine sxb hX [.r 19] [.F] 4000 rfl (by (simp [-List.getD_eq_getElem?_getD, -List.length_eq_zero_iff, conjP, addOP, hm])) ?_
  refine sxb hX [.r 19] [.F] 4000 rfl (by (simp [-List.getD_eq_getElem?_getD, -List.length_eq_zero_iff, conjP, addOP, hm])) ?_
  refine sxb hX [.r 19] [.F] 4000 rfl (by (simp [-List.getD_eq_getElem?_getD, -List.length_eq_zero_iff, conjP, addOP, hm])) ?_
  refine sxb hX [.r 19] [.F] 4000 rfl (by (simp [-List.getD_eq_getElem?_getD, -List.length_eq_zero_iff, conjP, addOP, hm])) ?_
  refine sxb hX [.r 19] [.F] 4000 rfl (by (simp [-List.getD_eq_getElem?_getD, -List.length_eq_zero_iff, conjP, addOP, hm])) ?_
  (refine ss_sub hX (T' := ffU N cap key a ⟨i, ⟨W, st, kd, wd, vl, ch, f, l, n0, n1⟩, sq⟩) (H' := fKa N o T R ⟨i, ⟨W, st, kd, wd, vl, ch, f, l, n0, n1⟩, sq⟩) [0, 1, 2, 3, 4, 5, 6, 7, 8, 9] rfl rfl rfl rfl ?tt ?hh ?ot ?ok (ss_sw hX (sw_ss (hXFf pp) (cs := []) h1)); (case tt => exact clhG); (case hh => exact clhG); (case ot => exact clkG); (case ok => exact clkG))
set_option maxHeartbeats 4000000 in
theorem fm2 (h : FInv T R N (cRem 1 12 key) 1 x) (hin : x.i < N) (hi : x.i < 100) {a : Nat} (_ha : a < T) (hm : ibits .and .i64 (o x.i).1 7 = 2)
    (J : ∃ p, FU 19 a p T R N cap key o x ρ w I) : ∃ p, FU 18 a p T R N cap key o x ρ w I := by
  have hk := h.fk
  have hs2 := h.s2
  have hsq := h.sq
  have hs0 := h.s0
  have hs1 := h.s1
  have hm0 := h.m0
  have hm1 := h.m1
  have hm2 := h.m2
  have hm3 := h.m3
  have hb := h.b
  have hfa := h.fa
  have hla := h.la
  have hfo := h.fo
  have hlo := h.lo
  have hfc := h.fc
  have hlc := h.lc
  obtain ⟨i, ⟨W, st, kd, wd, vl, ch, f, l, n0, n1⟩, sq⟩ := x
  dsimp only at hin hi hm hk hs2 hsq hs0 hs1 hm0 hm1 hm2 hm3 hb hfa hla hfo hlo hfc hlc
  have t1 := hb.t1
  have t8 := hb.t8
  have r1 := hb.r1
  have r4 := hb.r4
  have hl := hb.hl
  have st0 := hb.s0
  have hr := right_FR t1 t8 r1 r4
  have fi1 : (i : Int) < (N : Int) := by omega
  have fi2 : (i : Int) < 100 := by omega
  have ewi : IntKind.i64.wrap ((i : Int) + 1) = ((i + 1 : Nat) : Int) := by rw [wi64 (by omega) (by omega)]; omega
  refine ⟨p00 T R, ?_⟩
  have hX := hXFf (p00 T R)
  obtain ⟨pp, h1⟩ := J
  dsimp only [FU, ffU, fKa, ffH, acO] at h1 ⊢
  refine sxb hX [.r 19] [] 4000 rfl (by (simp [-List.getD_eq_getElem?_getD, -List.length_eq_zero_iff, conjP])) ?_
  refine sxb hX [.r 19] [.F] 4000 rfl (by (simp [-List.getD_eq_getElem?_getD, -List.length_eq_zero_iff, conjP, addOP, hm])) ?_
  refine sxb hX [.r 19] [.F] 4000 rfl (by (simp [-List.getD_eq_getElem?_getD, -List.length_eq_zero_iff, conjP, addOP, hm])) ?_
  refine sxb hX [.r 19] [.F] 4000 rfl (by (simp [-List.getD_eq_getElem?_getD, -List.length_eq_zero_iff, conjP, addOP, hm])) ?_
  refine sxb hX [.r 19] [.F] 4000 rfl (by (simp [-List.getD_eq_getElem?_getD, -List.length_eq_zero_iff, conjP, addOP, hm])) ?_
  refine sxb hX [.r 19] [.F] 4000 rfl (by (simp [-List.getD_eq_getElem?_getD, -List.length_eq_zero_iff, conjP, addOP, hm])) ?_
  (refine ss_sub hX (T' := ffU N cap key a ⟨i, ⟨W, st, kd, wd, vl, ch, f, l, n0, n1⟩, sq⟩) (H' := fKa N o T R ⟨i, ⟨W, st, kd, wd, vl, ch, f, l, n0, n1⟩, sq⟩) [0, 1, 2, 3, 4, 5, 6, 7, 8, 9] rfl rfl rfl rfl ?tt ?hh ?ot ?ok (ss_sw hX (sw_ss (hXFf pp) (cs := []) h1)); (case tt => exact clhG); (case hh => exact clhG); (case ot => exact clkG); (case ok => exact clkG))
set_option maxHeartbeats 4000000 in
theorem fm3 (h : FInv T R N (cRem 1 12 key) 1 x) (hin : x.i < N) (hi : x.i < 100) {a : Nat} (_ha : a < T) (hm : ibits .and .i64 (o x.i).1 7 = 3)
    (J : ∃ p, FU 36 a p T R N cap key o x ρ w I) : ∃ p, FU 18 a p T R N cap key o x ρ w I := by
  have hk := h.fk
  have hs2 := h.s2
  have hsq := h.sq
  have hs0 := h.s0
  have hs1 := h.s1
  have hm0 := h.m0
  have hm1 := h.m1
  have hm2 := h.m2
  have hm3 := h.m3
  have hb := h.b
  have hfa := h.fa
  have hla := h.la
  have hfo := h.fo
  have hlo := h.lo
  have hfc := h.fc
  have hlc := h.lc
  obtain ⟨i, ⟨W, st, kd, wd, vl, ch, f, l, n0, n1⟩, sq⟩ := x
  dsimp only at hin hi hm hk hs2 hsq hs0 hs1 hm0 hm1 hm2 hm3 hb hfa hla hfo hlo hfc hlc
  have t1 := hb.t1
  have t8 := hb.t8
  have r1 := hb.r1
  have r4 := hb.r4
  have hl := hb.hl
  have st0 := hb.s0
  have hr := right_FR t1 t8 r1 r4
  have fi1 : (i : Int) < (N : Int) := by omega
  have fi2 : (i : Int) < 100 := by omega
  have ewi : IntKind.i64.wrap ((i : Int) + 1) = ((i + 1 : Nat) : Int) := by rw [wi64 (by omega) (by omega)]; omega
  refine ⟨p00 T R, ?_⟩
  have hX := hXFf (p00 T R)
  obtain ⟨pp, h1⟩ := J
  dsimp only [FU, ffU, fKa, ffH, acO] at h1 ⊢
  refine sxb hX [.r 36] [] 4000 rfl (by (simp [-List.getD_eq_getElem?_getD, -List.length_eq_zero_iff, conjP])) ?_
  refine sxb hX [.r 36] [.F] 4000 rfl (by (simp [-List.getD_eq_getElem?_getD, -List.length_eq_zero_iff, conjP, addOP, hm])) ?_
  refine sxb hX [.r 36] [.F] 4000 rfl (by (simp [-List.getD_eq_getElem?_getD, -List.length_eq_zero_iff, conjP, addOP, hm])) ?_
  refine sxb hX [.r 36] [.F] 4000 rfl (by (simp [-List.getD_eq_getElem?_getD, -List.length_eq_zero_iff, conjP, addOP, hm])) ?_
  refine sxb hX [.r 36] [.T] 4000 rfl (by (simp [-List.getD_eq_getElem?_getD, -List.length_eq_zero_iff, conjP, addOP, hm])) ?_
  (refine ss_sub hX (T' := ffU N cap key a ⟨i, ⟨W, st, kd, wd, vl, ch, f, l, n0, n1⟩, sq⟩) (H' := fKa N o T R ⟨i, ⟨W, st, kd, wd, vl, ch, f, l, n0, n1⟩, sq⟩) [0, 1, 2, 3, 4, 5, 6, 7, 8, 9] rfl rfl rfl rfl ?tt ?hh ?ot ?ok (ss_sw hX (sw_ss (hXFf pp) (cs := []) h1)); (case tt => exact clhG); (case hh => exact clhG); (case ot => exact clkG); (case ok => exact clkG))
set_option maxHeartbeats 4000000 in
theorem fm4 (h : FInv T R N (cRem 1 12 key) 1 x) (hin : x.i < N) (hi : x.i < 100) {a : Nat} (_ha : a < T) (hm : ibits .and .i64 (o x.i).1 7 = 4)
    (J : ∃ p, FU 36 a p T R N cap key o x ρ w I) : ∃ p, FU 18 a p T R N cap key o x ρ w I := by
  have hk := h.fk
  have hs2 := h.s2
  have hsq := h.sq
  have hs0 := h.s0
  have hs1 := h.s1
  have hm0 := h.m0
  have hm1 := h.m1
  have hm2 := h.m2
  have hm3 := h.m3
  have hb := h.b
  have hfa := h.fa
  have hla := h.la
  have hfo := h.fo
  have hlo := h.lo
  have hfc := h.fc
  have hlc := h.lc
  obtain ⟨i, ⟨W, st, kd, wd, vl, ch, f, l, n0, n1⟩, sq⟩ := x
  dsimp only at hin hi hm hk hs2 hsq hs0 hs1 hm0 hm1 hm2 hm3 hb hfa hla hfo hlo hfc hlc
  have t1 := hb.t1
  have t8 := hb.t8
  have r1 := hb.r1
  have r4 := hb.r4
  have hl := hb.hl
  have st0 := hb.s0
  have hr := right_FR t1 t8 r1 r4
  have fi1 : (i : Int) < (N : Int) := by omega
  have fi2 : (i : Int) < 100 := by omega
  have ewi : IntKind.i64.wrap ((i : Int) + 1) = ((i + 1 : Nat) : Int) := by rw [wi64 (by omega) (by omega)]; omega
  refine ⟨p00 T R, ?_⟩
  have hX := hXFf (p00 T R)
  obtain ⟨pp, h1⟩ := J
  dsimp only [FU, ffU, fKa, ffH, acO] at h1 ⊢
  refine sxb hX [.r 36] [] 4000 rfl (by (simp [-List.getD_eq_getElem?_getD, -List.length_eq_zero_iff, conjP])) ?_
  refine sxb hX [.r 36] [.F] 4000 rfl (by (simp [-List.getD_eq_getElem?_getD, -List.length_eq_zero_iff, conjP, addOP, hm])) ?_
  refine sxb hX [.r 36] [.F] 4000 rfl (by (simp [-List.getD_eq_getElem?_getD, -List.length_eq_zero_iff, conjP, addOP, hm])) ?_
  refine sxb hX [.r 36] [.F] 4000 rfl (by (simp [-List.getD_eq_getElem?_getD, -List.length_eq_zero_iff, conjP, addOP, hm])) ?_
  refine sxb hX [.r 36] [.F] 4000 rfl (by (simp [-List.getD_eq_getElem?_getD, -List.length_eq_zero_iff, conjP, addOP, hm])) ?_
  refine sxb hX [.r 36] [.T] 4000 rfl (by (simp [-List.getD_eq_getElem?_getD, -List.length_eq_zero_iff, conjP, addOP, hm])) ?_
  (refine ss_sub hX (T' := ffU N cap key a ⟨i, ⟨W, st, kd, wd, vl, ch, f, l, n0, n1⟩, sq⟩) (H' := fKa N o T R ⟨i, ⟨W, st, kd, wd, vl, ch, f, l, n0, n1⟩, sq⟩) [0, 1, 2, 3, 4, 5, 6, 7, 8, 9] rfl rfl rfl rfl ?tt ?hh ?ot ?ok (ss_sw hX (sw_ss (hXFf pp) (cs := []) h1)); (case tt => exact clhG); (case hh => exact clhG); (case ot => exact clkG); (case ok => exact clkG))
end
end Go.Proofs.YtkkddjchkkaagaaGreatDoor
