/- SlotsTell: whole. -/
import Derived.Test.YtfdkaakllceebaaTellEnd
namespace Go.Proofs.Ytfdkaakllceebaa
open Go Go.Hx
set_option maxRecDepth 8000
section
variable {ρ : Nat → Nat × Nat} {w : World} {z x W : List Int} {a b : Int} {cap : Nat} {ad : Option Addr} {I : Act → World → Prop} {sh : Bool}
set_option maxHeartbeats 8000000 in
theorem p10s (hW : (W.length : Int) = sizeV 1 4 8 4 2 6 2) (hl : 13 ≤ W.length) (hb : bdN W) (hx : nmV W = x) (hz : ∀ j, 0 ≤ z.getD j 0 ∧ z.getD j 0 < 18446744073709551616) : SS (hXTl x) (At ρ w) (Is .tt [.obj (.winI .u64 z)]) ⟨[], [], Try.f7, Try.f7.ntmps, [.obj (.winI .u64 z)], contF Try.f7 10 [], [(1, .slice 0 0 z.length cap), (3, .ptr 1 0), (7, .tt), (8, .ptr 2 0), (9, .slice 3 1 (W.length - 1) (W.length - 1))], [.obj (.winI .u64 z), .obj (.ints .i64 [a, b] 71), cfN, WO W]⟩ := by
  have J := p13s (ρ := ρ) (w := w) (x := x) (a := a) (b := b) (z := z) (cap := cap) hz
  have hr := right12
  have hW1 : ¬ ((W.length - 1 : Nat) : Int) = sizeV 1 4 8 4 2 6 2 := by omega
  have ht : x.length < 1000000 := by rw [← hx]; have := nmV_len (W := W); omega
  have hX := hXTl x
  dsimp only [cfN]
  refine sxb hX [.r 13] [] 4000 rfl (by (simp [-List.getD_eq_getElem?_getD, -List.length_eq_zero_iff, conjP, getH, HE.so, hW1])) ?_
  (refine ss_sub hX (T' := [(1, .slice 0 0 z.length cap), (3, .ptr 1 0), (7, .tt), (11, .int .u64 (markV a b)), (12, .tt), (13, .nilslice)]) (H' := [.obj (.winI .u64 z), .obj (.ints .i64 [a, b] 71)]) [0, 1] rfl rfl rfl rfl ?tt ?hh ?ot ?ok J; (case tt => (try simp only [eq_self_iff_true, decide_true]); exact clhT); (case hh => exact clhT); (case ot => exact clkN); (case ok => exact clkN))
set_option maxHeartbeats 8000000 in
theorem p8s (hW : (W.length : Int) = sizeV 1 4 8 4 2 6 2) (hl : 13 ≤ W.length) (hb : bdN W) (hx : nmV W = x) (hz : ∀ j, 0 ≤ z.getD j 0 ∧ z.getD j 0 < 18446744073709551616) : SS (hXTl x) (At ρ w) (Is .tt [.obj (.winI .u64 z)]) ⟨[], [], Try.f7, Try.f7.ntmps, [.obj (.winI .u64 z)], contF Try.f7 8 [], [(1, .slice 0 0 z.length cap), (2, .bool sh), (3, .ptr 1 0), (7, .tt), (8, .ptr 2 0), (9, .slice 3 0 W.length W.length)], [.obj (.winI .u64 z), .obj (.ints .i64 [a, b] 71), cfN, WO W]⟩ := by
  have J := p13s (ρ := ρ) (w := w) (x := x) (a := a) (b := b) (z := z) (cap := cap) hz
  have hr := right12
  have hW1 : ¬ ((W.length - 1 : Nat) : Int) = sizeV 1 4 8 4 2 6 2 := by omega
  have ht : x.length < 1000000 := by rw [← hx]; have := nmV_len (W := W); omega
  have hX := hXTl x
  dsimp only [cfN]
  cases sh with
  | true =>
    have hX := hXTl x
    have e1 : (if W.length = Int.toNat 1 then 0 else 0 + mulF (Int.toNat 1) ((XTl x).TE 56).size) = 1 := by
      rw [if_neg (by show ¬ W.length = 1; omega)]; rfl
    refine sxb hX [.r 10] [] 4000 rfl (by (simp [-List.getD_eq_getElem?_getD, -List.length_eq_zero_iff, conjP])) ?_
    refine sxb hX [.r 10] [.T] 4000 rfl (by (simp [-List.getD_eq_getElem?_getD, -List.length_eq_zero_iff, conjP] <;> (first | omega | ((repeat' (refine And.intro ?_ ?_)) <;> (first | omega | exact decide_eq_false (by omega) | exact decide_eq_true (by omega)))))) ?_
    (refine ss_sub hX (T' := [(1, .slice 0 0 z.length cap), (3, .ptr 1 0), (7, .tt), (8, .ptr 2 0), (9, .slice 3 1 (W.length - 1) (W.length - 1))]) (H' := [.obj (.winI .u64 z), .obj (.ints .i64 [a, b] 71), cfN, WO W]) [0, 1, 2, 3] rfl rfl rfl rfl ?tt ?hh ?ot ?ok ?jj; (case tt => simp only [e1]; exact clhT); (case hh => exact clhT); (case ot => exact clkN); (case ok => exact clkN); (case jj => exact p10s hW hl hb hx hz))
  | false =>
    cases x with
    | nil =>
      have hX := hXTl []
      refine sxb hX [.r 13] [] 4000 rfl (by (simp [-List.getD_eq_getElem?_getD, -List.length_eq_zero_iff, conjP])) ?_
      refine sxb hX [.r 13] [.F] 4000 rfl (by (simp [-List.getD_eq_getElem?_getD, -List.length_eq_zero_iff, conjP, getH, HE.so, hW, hl, hb, hx])) ?_
      (refine ss_sub hX (T' := [(1, .slice 0 0 z.length cap), (3, .ptr 1 0), (7, .tt), (11, .int .u64 (markV a b)), (12, .tt), (13, .nilslice)]) (H' := [.obj (.winI .u64 z), .obj (.ints .i64 [a, b] 71)]) [0, 1] rfl rfl rfl rfl ?tt ?hh ?ot ?ok J; (case tt => (try simp only [eq_self_iff_true, decide_true]); exact clhT); (case hh => exact clhT); (case ot => exact clkN); (case ok => exact clkN))
    | cons y t =>
      have hX := hXTl (y :: t)
      refine sxb hX [.r 13] [] 4000 rfl (by (simp [-List.getD_eq_getElem?_getD, -List.length_eq_zero_iff, conjP])) ?_
      refine sxb hX [.r 13] [.F] 4000 rfl (by (simp [-List.getD_eq_getElem?_getD, -List.length_eq_zero_iff, conjP, getH, HE.so, hW, hl, hb, hx] <;> (first | omega | ((repeat' (refine And.intro ?_ ?_)) <;> (first | omega | exact decide_eq_false (by omega) | exact decide_eq_true (by omega)))))) ?_
      (refine ss_sub hX (T' := [(1, .slice 0 0 z.length cap), (3, .ptr 1 0), (7, .tt), (11, .int .u64 (markV a b)), (12, .tt), (13, .nilslice)]) (H' := [.obj (.winI .u64 z), .obj (.ints .i64 [a, b] 71)]) [0, 1] rfl rfl rfl rfl ?tt ?hh ?ot ?ok J; (case tt => (try simp only [decide_true]); exact clhT); (case hh => exact clhT); (case ot => exact clkN); (case ok => exact clkN))
set_option maxHeartbeats 8000000 in
theorem p10n (hW : (W.length : Int) = sizeV 1 4 8 4 2 6 2) (hl : 13 ≤ W.length) (hb : bdN W) (hx : nmV W = x) : SS (hXTl x) (At ρ w) (Is .tt []) ⟨[], [], Try.f7, Try.f7.ntmps, [], contF Try.f7 10 [], [(1, .raw (.slice ad 0 0)), (3, .ptr 0 0), (7, .tt), (8, .ptr 1 0), (9, .slice 2 1 (W.length - 1) (W.length - 1))], [.obj (.ints .i64 [a, b] 71), cfN, WO W]⟩ := by
  have J := p13n (ρ := ρ) (w := w) (x := x) (a := a) (b := b) (ad := ad)
  have hr := right12
  have hW1 : ¬ ((W.length - 1 : Nat) : Int) = sizeV 1 4 8 4 2 6 2 := by omega
  have ht : x.length < 1000000 := by rw [← hx]; have := nmV_len (W := W); omega
  have hX := hXTl x
  dsimp only [cfN]
  refine sxb hX [.r 13] [] 4000 rfl (by (simp [-List.getD_eq_getElem?_getD, -List.length_eq_zero_iff, conjP, getH, HE.so, hW1])) ?_
  (refine ss_sub hX (T' := [(1, .raw (.slice ad 0 0)), (3, .ptr 0 0), (7, .tt), (11, .int .u64 (markV a b)), (12, .tt), (13, .nilslice)]) (H' := [.obj (.ints .i64 [a, b] 71)]) [0] rfl rfl rfl rfl ?tt ?hh ?ot ?ok J; (case tt => (try simp only [eq_self_iff_true, decide_true]); exact clhT); (case hh => exact clhT); (case ot => exact clkN); (case ok => exact clkN))
set_option maxHeartbeats 8000000 in
theorem p8n (hW : (W.length : Int) = sizeV 1 4 8 4 2 6 2) (hl : 13 ≤ W.length) (hb : bdN W) (hx : nmV W = x) : SS (hXTl x) (At ρ w) (Is .tt []) ⟨[], [], Try.f7, Try.f7.ntmps, [], contF Try.f7 8 [], [(1, .raw (.slice ad 0 0)), (2, .bool sh), (3, .ptr 0 0), (7, .tt), (8, .ptr 1 0), (9, .slice 2 0 W.length W.length)], [.obj (.ints .i64 [a, b] 71), cfN, WO W]⟩ := by
  have J := p13n (ρ := ρ) (w := w) (x := x) (a := a) (b := b) (ad := ad)
  have hr := right12
  have hW1 : ¬ ((W.length - 1 : Nat) : Int) = sizeV 1 4 8 4 2 6 2 := by omega
  have ht : x.length < 1000000 := by rw [← hx]; have := nmV_len (W := W); omega
  have hX := hXTl x
  dsimp only [cfN]
  cases sh with
  | true =>
    have hX := hXTl x
    have e1 : (if W.length = Int.toNat 1 then 0 else 0 + mulF (Int.toNat 1) ((XTl x).TE 56).size) = 1 := by
      rw [if_neg (by show ¬ W.length = 1; omega)]; rfl
    refine sxb hX [.r 10] [] 4000 rfl (by (simp [-List.getD_eq_getElem?_getD, -List.length_eq_zero_iff, conjP])) ?_
    refine sxb hX [.r 10] [.T] 4000 rfl (by (simp [-List.getD_eq_getElem?_getD, -List.length_eq_zero_iff, conjP] <;> (first | omega | ((repeat' (refine And.intro ?_ ?_)) <;> (first | omega | exact decide_eq_false (by omega) | exact decide_eq_true (by omega)))))) ?_
    (refine ss_sub hX (T' := [(1, .raw (.slice ad 0 0)), (3, .ptr 0 0), (7, .tt), (8, .ptr 1 0), (9, .slice 2 1 (W.length - 1) (W.length - 1))]) (H' := [.obj (.ints .i64 [a, b] 71), cfN, WO W]) [0, 1, 2] rfl rfl rfl rfl ?tt ?hh ?ot ?ok ?jj; (case tt => simp only [e1]; exact clhT); (case hh => exact clhT); (case ot => exact clkN); (case ok => exact clkN); (case jj => exact p10n hW hl hb hx))
  | false =>
    cases x with
    | nil =>
      have hX := hXTl []
      refine sxb hX [.r 13] [] 4000 rfl (by (simp [-List.getD_eq_getElem?_getD, -List.length_eq_zero_iff, conjP])) ?_
      refine sxb hX [.r 13] [.F] 4000 rfl (by (simp [-List.getD_eq_getElem?_getD, -List.length_eq_zero_iff, conjP, getH, HE.so, hW, hl, hb, hx])) ?_
      (refine ss_sub hX (T' := [(1, .raw (.slice ad 0 0)), (3, .ptr 0 0), (7, .tt), (11, .int .u64 (markV a b)), (12, .tt), (13, .nilslice)]) (H' := [.obj (.ints .i64 [a, b] 71)]) [0] rfl rfl rfl rfl ?tt ?hh ?ot ?ok J; (case tt => (try simp only [eq_self_iff_true, decide_true]); exact clhT); (case hh => exact clhT); (case ot => exact clkN); (case ok => exact clkN))
    | cons y t =>
      have hX := hXTl (y :: t)
      refine sxb hX [.r 13] [] 4000 rfl (by (simp [-List.getD_eq_getElem?_getD, -List.length_eq_zero_iff, conjP])) ?_
      refine sxb hX [.r 13] [.F] 4000 rfl (by (simp [-List.getD_eq_getElem?_getD, -List.length_eq_zero_iff, conjP, getH, HE.so, hW, hl, hb, hx] <;> (first | omega | ((repeat' (refine And.intro ?_ ?_)) <;> (first | omega | exact decide_eq_false (by omega) | exact decide_eq_true (by omega)))))) ?_
      (refine ss_sub hX (T' := [(1, .raw (.slice ad 0 0)), (3, .ptr 0 0), (7, .tt), (11, .int .u64 (markV a b)), (12, .tt), (13, .nilslice)]) (H' := [.obj (.ints .i64 [a, b] 71)]) [0] rfl rfl rfl rfl ?tt ?hh ?ot ?ok J; (case tt => (try simp only [decide_true]); exact clhT); (case hh => exact clhT); (case ot => exact clkN); (case ok => exact clkN))
end
end Go.Proofs.Ytfdkaakllceebaa
