/- Named blocks, by the document: whole. -/
import Derived.Test.YtfdkaakllceebaaDocNamed
import Derived.Test.YtfdkaakllceebaaNamedLay
namespace Go.Proofs.Ytfdkaakllceebaa
open Go Go.Hx
set_option maxRecDepth 8000
section
variable {ρ : Nat → Nat × Nat} {w : World} {W l : List Int} {I : Act → World → Prop} {i j : Nat} {k : Int}
set_option maxHeartbeats 4000000 in
theorem s13_nil (hi : i < 8) (bk : ∀ cs T H, Sub (FEnv Try.prog XRn.TE hXRn.te Try.f36 Try.f36.ntmps [WO W] (Is (slV (opL (nmV W)) 1) [WO W, slE (opL (nmV W)) .i64 3]) ρ w) T H (rT W.length (i + 1) [k]) (rH W [k]) → SS hXRn (At ρ w) (Is (slV (opL (nmV W)) 1) [WO W, slE (opL (nmV W)) .i64 3]) ⟨cs, [], Try.f36, Try.f36.ntmps, [WO W], downLq (contF Try.f36 8 [I]), T, H⟩) : SS hXRn (At ρ w) (Is (slV (opL (nmV W)) 1) [WO W, slE (opL (nmV W)) .i64 3]) ⟨[], [], Try.f36, Try.f36.ntmps, [WO W], contF Try.f36 13 [I], [(1, .slice 0 0 W.length W.length), (2, .ptr 1 0), (6, .nilslice), (7, .int .i64 (i : Int)), (9, .int .i64 k)], [WO W, cfN]⟩ := by
  have hX := hXRn
  have J := e16_nil (ρ := ρ) (w := w) (W := W) (I := I) hi bk
  refine sxb hX [.l] [] 100 rfl trivial ?_
  refine ss_sub hX (T' := [(1, .slice 0 0 W.length W.length), (2, .ptr 1 0), (6, .nilslice), (7, .int .i64 (i : Int)), (9, .int .i64 k), (10, .int .i64 0)]) (H' := [WO W, cfN]) [0, 1] rfl rfl rfl rfl clhR clhR clkN clkN ?_
  refine ss_loop hX (fun _ : Unit => [(1, .slice 0 0 W.length W.length), (2, .ptr 1 0), (6, .nilslice), (7, .int .i64 (i : Int)), (9, .int .i64 k), (10, .int .i64 0)]) (fun _ => [WO W, cfN]) (fun _ => True) (fun _ => 0) () trivial ?_
  intro _ _ I2 _
  refine sxb hX [.r 16] [] 4000 rfl (by (simp [-List.getD_eq_getElem?_getD, -List.length_eq_zero_iff, conjP])) ?_
  refine sxb hX [.r 16] [.F] 4000 rfl (by (simp [-List.getD_eq_getElem?_getD, -List.length_eq_zero_iff, conjP, addOP])) ?_
  (refine ss_sub hX (T' := [(1, .slice 0 0 W.length W.length), (2, .ptr 1 0), (6, .nilslice), (7, .int .i64 (i : Int)), (9, .int .i64 k), (10, .int .i64 0)]) (H' := [WO W, cfN]) [0, 1] rfl rfl rfl rfl ?tt ?hh ?ot ?ok J; (case tt => exact clhR); (case hh => exact clhR); (case ot => exact clkN); (case ok => exact clkN))
set_option maxHeartbeats 4000000 in
theorem s13_some (hi : i < 8) (hn : ¬ l = []) (hu : Up l) (hl : l.length ≤ 8) (bi : k ∈ l → ∀ cs T H, Sub (FEnv Try.prog XRn.TE hXRn.te Try.f36 Try.f36.ntmps [WO W] (Is (slV (opL (nmV W)) 1) [WO W, slE (opL (nmV W)) .i64 3]) ρ w) T H (rT W.length (i + 1) l) (rH W l) → SS hXRn (At ρ w) (Is (slV (opL (nmV W)) 1) [WO W, slE (opL (nmV W)) .i64 3]) ⟨cs, [], Try.f36, Try.f36.ntmps, [WO W], downLq (contF Try.f36 8 [I]), T, H⟩)
    (bn : ¬ k ∈ l → ∀ cs T H, Sub (FEnv Try.prog XRn.TE hXRn.te Try.f36 Try.f36.ntmps [WO W] (Is (slV (opL (nmV W)) 1) [WO W, slE (opL (nmV W)) .i64 3]) ρ w) T H (rT W.length (i + 1) (insD l k)) (rH W (insD l k)) → SS hXRn (At ρ w) (Is (slV (opL (nmV W)) 1) [WO W, slE (opL (nmV W)) .i64 3]) ⟨cs, [], Try.f36, Try.f36.ntmps, [WO W], downLq (contF Try.f36 8 [I]), T, H⟩) : SS hXRn (At ρ w) (Is (slV (opL (nmV W)) 1) [WO W, slE (opL (nmV W)) .i64 3]) ⟨[], [], Try.f36, Try.f36.ntmps, [WO W], contF Try.f36 13 [I], [(1, .slice 0 0 W.length W.length), (2, .ptr 1 0), (6, .sbuf 2 1 0 l.length), (7, .int .i64 (i : Int)), (9, .int .i64 k)], [WO W, cfN, .obj (.buf .i64 l 1 3)]⟩ := by
  have hX := hXRn
  have hle := insP_le (l := l) (k := k)
  have J : SS hXRn (At ρ w) (Is (slV (opL (nmV W)) 1) [WO W, slE (opL (nmV W)) .i64 3]) ⟨[], [], Try.f36, Try.f36.ntmps, [WO W], contF Try.f36 16 [I], [(1, .slice 0 0 W.length W.length), (2, .ptr 1 0), (6, .sbuf 2 1 0 l.length), (7, .int .i64 (i : Int)), (9, .int .i64 k), (10, .int .i64 (insP l k : Int))], [WO W, cfN, .obj (.buf .i64 l 1 3)]⟩ := by
    by_cases hm : k ∈ l
    · obtain ⟨a, b⟩ := (ins_at hu).1 hm
      exact e16_in hi hn a hl b (bi hm)
    · refine e16_new hi hn hle hl ?_ (bn hm)
      by_cases e : insP l k = l.length
      · exact .inl e
      · exact .inr fun q => hm ((ins_at hu).2 ⟨by omega, q⟩)
  refine sxb hX [.l] [] 100 rfl trivial ?_
  refine ss_sub hX (T' := [(1, .slice 0 0 W.length W.length), (2, .ptr 1 0), (6, .sbuf 2 1 0 l.length), (7, .int .i64 (i : Int)), (9, .int .i64 k), (10, .int .i64 ((0 : Nat) : Int))]) (H' := [WO W, cfN, .obj (.buf .i64 l 1 3)]) [0, 1, 2] rfl rfl rfl rfl clhR clhR clkN clkN ?_
  refine ss_loop hX (fun j : Nat => [(1, .slice 0 0 W.length W.length), (2, .ptr 1 0), (6, .sbuf 2 1 0 l.length), (7, .int .i64 (i : Int)), (9, .int .i64 k), (10, .int .i64 (j : Int))]) (fun _ => [WO W, cfN, .obj (.buf .i64 l 1 3)]) (fun j : Nat => j ≤ insP l k) (fun j => insP l k - j) 0 (Nat.zero_le _) ?_
  intro j hj I2 back
  have hj : j ≤ insP l k := hj
  have hat := insP_at hj
  by_cases hlt : j < insP l k
  · obtain ⟨g1, g2⟩ := hat.2 hlt
    have g1' : (j : Int) < (l.length : Int) := by omega
    have ewj : IntKind.i64.wrap ((j : Int) + 1) = ((j + 1 : Nat) : Int) := by rw [wi64 (by omega) (by omega)]; omega
    have bk := back (j + 1) (by show j + 1 ≤ insP l k; omega) (by show insP l k - (j + 1) < insP l k - j; omega)
    refine sx hX [] 4000 rfl (by (simp [-List.getD_eq_getElem?_getD, -List.length_eq_zero_iff, conjP])) ?_
    refine sx hX [.T] 4000 rfl (by (simp [-List.getD_eq_getElem?_getD, -List.length_eq_zero_iff, conjP, g1', g1, cellOff, Int.toNat_natCast])) ?_
    refine sx hX [.T] 4000 rfl (by (simp [-List.getD_eq_getElem?_getD, -List.length_eq_zero_iff, conjP, addOP, g2, cellOff, Int.toNat_natCast])) ?_
    (refine bk _ _ _ (sub_of [0, 1, 2] rfl rfl rfl rfl ?tt ?hh ?ot ?ok); (case tt => (try simp only [ewj]); exact clhR); (case hh => exact clhR); (case ot => exact clkN); (case ok => exact clkN))
  · have ej : j = insP l k := by omega
    have gn1 : (j : Int) < (l.length : Int) → ¬ l.getD j 0 < k := fun q q2 => hlt (hat.1 ⟨by omega, q2⟩)
    refine sxb hX [.r 16] [] 4000 rfl (by (simp [-List.getD_eq_getElem?_getD, -List.length_eq_zero_iff, conjP])) ?_
    refine ss_pb hX [.r 16] [] 4000 rfl (fun hb0 => ?_) (fun hb0 => ?_)
    · try simp [-List.getD_eq_getElem?_getD, -List.length_eq_zero_iff] at hb0
      refine sxb hX [.r 16] [.T] 4000 rfl (by (simp [-List.getD_eq_getElem?_getD, -List.length_eq_zero_iff, conjP, cellOff, Int.toNat_natCast, hb0])) ?_
      refine sxb hX [.r 16] [.F] 4000 rfl (by (simp [-List.getD_eq_getElem?_getD, -List.length_eq_zero_iff, conjP, addOP, gn1, cellOff, Int.toNat_natCast, hb0])) ?_
      (refine ss_sub hX (T' := [(1, .slice 0 0 W.length W.length), (2, .ptr 1 0), (6, .sbuf 2 1 0 l.length), (7, .int .i64 (i : Int)), (9, .int .i64 k), (10, .int .i64 (insP l k : Int))]) (H' := [WO W, cfN, .obj (.buf .i64 l 1 3)]) [0, 1, 2] rfl rfl rfl rfl ?tt ?hh ?ot ?ok J; (case tt => rw [ej]; exact clhR); (case hh => exact clhR); (case ot => exact clkN); (case ok => exact clkN))
    · try simp [-List.getD_eq_getElem?_getD, -List.length_eq_zero_iff] at hb0
      refine sxb hX [.r 16] [.F] 4000 rfl (by (simp [-List.getD_eq_getElem?_getD, -List.length_eq_zero_iff, conjP, addOP, hb0])) ?_
      (refine ss_sub hX (T' := [(1, .slice 0 0 W.length W.length), (2, .ptr 1 0), (6, .sbuf 2 1 0 l.length), (7, .int .i64 (i : Int)), (9, .int .i64 k), (10, .int .i64 (insP l k : Int))]) (H' := [WO W, cfN, .obj (.buf .i64 l 1 3)]) [0, 1, 2] rfl rfl rfl rfl ?tt ?hh ?ot ?ok J; (case tt => rw [ej]; exact clhR); (case hh => exact clhR); (case ot => exact clkN); (case ok => exact clkN))
theorem s13_ok (hi : i < 8) (hok : okN (W.getD (5 + i) 0) = true) (bk : ∀ cs T H, Sub (FEnv Try.prog XRn.TE hXRn.te Try.f36 Try.f36.ntmps [WO W] (Is (slV (opL (nmV W)) 1) [WO W, slE (opL (nmV W)) .i64 3]) ρ w) T H (rT W.length (i + 1) (rN W (i + 1))) (rH W (rN W (i + 1))) → SS hXRn (At ρ w) (Is (slV (opL (nmV W)) 1) [WO W, slE (opL (nmV W)) .i64 3]) ⟨cs, [], Try.f36, Try.f36.ntmps, [WO W], downLq (contF Try.f36 8 [I]), T, H⟩) : SS hXRn (At ρ w) (Is (slV (opL (nmV W)) 1) [WO W, slE (opL (nmV W)) .i64 3]) ⟨[], [], Try.f36, Try.f36.ntmps, [WO W], contF Try.f36 13 [I], [(1, .slice 0 0 W.length W.length), (2, .ptr 1 0), (6, slV (opL (rN W i)) 2), (7, .int .i64 (i : Int)), (9, .int .i64 (blkV (W.getD (5 + i) 0)))], rH W (rN W i)⟩ := by
  have hlen := rN_len (W := W) i
  unfold rH
  by_cases hn : rN W i = []
  · rw [rN_new hok (by rw [hn]; exact List.not_mem_nil), hn, insD_nil] at bk
    rw [hn]
    exact ss_sub hXRn (T' := [(1, .slice 0 0 W.length W.length), (2, .ptr 1 0), (6, .nilslice), (7, .int .i64 (i : Int)), (9, .int .i64 (blkV (W.getD (5 + i) 0)))]) (H' := [WO W, cfN]) [0, 1] rfl rfl rfl rfl clhR clhR clkN clkN (s13_nil hi bk)
  · rw [opL_some hn]
    exact s13_some hi hn (rN_up i) (by omega) (fun hm => by rw [rN_in hm] at bk; exact bk) (fun hm => by rw [rN_new hok hm] at bk; exact bk)
set_option maxHeartbeats 8000000 in
theorem rround (hl : 13 ≤ W.length) (hi : i < 8) (hb5 : 0 ≤ W.getD (5 + i) 0 ∧ W.getD (5 + i) 0 < 18446744073709551616) (bk : ∀ cs T H, Sub (FEnv Try.prog XRn.TE hXRn.te Try.f36 Try.f36.ntmps [WO W] (Is (slV (opL (nmV W)) 1) [WO W, slE (opL (nmV W)) .i64 3]) ρ w) T H (rT W.length (i + 1) (rN W (i + 1))) (rH W (rN W (i + 1))) → SS hXRn (At ρ w) (Is (slV (opL (nmV W)) 1) [WO W, slE (opL (nmV W)) .i64 3]) ⟨cs, [], Try.f36, Try.f36.ntmps, [WO W], downLq (contF Try.f36 8 [I]), T, H⟩) : SS hXRn (At ρ w) (Is (slV (opL (nmV W)) 1) [WO W, slE (opL (nmV W)) .i64 3]) ⟨[], [], Try.f36, Try.f36.ntmps, [WO W], contF Try.f36 8 [I], rT W.length i (rN W i), rH W (rN W i)⟩ := by
  have hX := hXRn
  have hr := right12
  have h1 : (i : Int) < 8 := by omega
  have es : slotF 1 4 8 4 4 2 6 2 2 (i : Int) = 5 + (i : Int) := by rw [slot_at hi]; omega
  have et : (5 + (i : Int)).toNat = 5 + i := by omega
  have h2 : 5 + (i : Int) < (W.length : Int) := by omega
  have h3 : (0 : Int) ≤ 5 + (i : Int) := by omega
  have h4 : 5 + i < W.length := by omega
  have ewi : IntKind.i64.wrap ((i : Int) + 1) = ((i + 1 : Nat) : Int) := by rw [wi64 (by omega) (by omega)]; omega
  have eb := and32 hb5.1 hb5.2
  have ewb : IntKind.i64.wrap (W.getD (5 + i) 0 % 4294967296) = W.getD (5 + i) 0 % 4294967296 := wi64 (by omega) (by omega)
  have ef : (W.getD (5 + i) 0).fdiv (2 ^ min 32 IntKind.u64.bits) = W.getD (5 + i) 0 / 4294967296 := by
    rw [show min 32 IntKind.u64.bits = 32 from rfl, Int.fdiv_eq_ediv_of_nonneg _ (by omega)]; rfl
  have ok : okN (W.getD (5 + i) 0) = true ↔ (¬ W.getD (5 + i) 0 / 4294967296 = 0 ∧ ¬ W.getD (5 + i) 0 % 4294967296 = 0) := by
    generalize W.getD (5 + i) 0 = x at *
    unfold okN clientV blkV
    rw [Bool.and_eq_true, decide_eq_true_eq, decide_eq_true_eq]
    omega
  by_cases ha : W.getD (5 + i) 0 / 4294967296 = 0
  · rw [rN_no (by rw [Bool.eq_false_iff]; exact fun q => (ok.1 q).1 ha)] at bk
    unfold rT rH at bk ⊢
    dsimp only [cfN] at bk ⊢
    refine sx hX [] 4000 rfl (by (simp [-List.getD_eq_getElem?_getD, -List.length_eq_zero_iff, conjP])) ?_
    refine sx hX [.T] 4000 rfl (by (simp [-List.getD_eq_getElem?_getD, -List.length_eq_zero_iff, conjP, hr, es, et, h1, h2, h3, h4] <;> (first | omega | ((repeat' (refine And.intro ?_ ?_)) <;> (first | omega | exact decide_eq_false (by omega) | exact decide_eq_true (by omega)))))) ?_
    refine sx hX [.T] 4000 rfl (by (simp [-List.getD_eq_getElem?_getD, -List.length_eq_zero_iff, conjP, addOP, es, et, ef, ha])) ?_
    (refine bk _ _ _ (sub_of [0, 1, 2] rfl rfl rfl rfl ?tt ?hh ?ot ?ok); (case tt => (try simp only [ewi]); exact clhR); (case hh => exact clhR); (case ot => exact clkN); (case ok => exact clkN))
  · by_cases hb : W.getD (5 + i) 0 % 4294967296 = 0
    · rw [rN_no (by rw [Bool.eq_false_iff]; exact fun q => (ok.1 q).2 hb)] at bk
      unfold rT rH at bk ⊢
      dsimp only [cfN] at bk ⊢
      have wz : IntKind.i64.wrap 0 = 0 := by decide
      refine sx hX [] 4000 rfl (by (simp [-List.getD_eq_getElem?_getD, -List.length_eq_zero_iff, conjP])) ?_
      refine sx hX [.T] 4000 rfl (by (simp [-List.getD_eq_getElem?_getD, -List.length_eq_zero_iff, conjP, hr, es, et, h1, h2, h3, h4] <;> (first | omega | ((repeat' (refine And.intro ?_ ?_)) <;> (first | omega | exact decide_eq_false (by omega) | exact decide_eq_true (by omega)))))) ?_
      refine sx hX [.F] 4000 rfl (by (simp [-List.getD_eq_getElem?_getD, -List.length_eq_zero_iff, conjP, addOP, es, et, ef, ha])) ?_
      refine sx hX [.T] 4000 rfl (by (simp [-List.getD_eq_getElem?_getD, -List.length_eq_zero_iff, conjP, addOP, es, et, eb, hb, wz])) ?_
      (refine bk _ _ _ (sub_of [0, 1, 2] rfl rfl rfl rfl ?tt ?hh ?ot ?ok); (case tt => (try simp only [ewi]); exact clhR); (case hh => exact clhR); (case ot => exact clkN); (case ok => exact clkN))
    · have J := s13_ok hi (ok.2 ⟨ha, hb⟩) bk
      unfold rT rH at *
      dsimp only [cfN] at J ⊢
      refine sxb hX [.r 13] [] 4000 rfl (by (simp [-List.getD_eq_getElem?_getD, -List.length_eq_zero_iff, conjP])) ?_
      refine sxb hX [.r 13] [.T] 4000 rfl (by (simp [-List.getD_eq_getElem?_getD, -List.length_eq_zero_iff, conjP, hr, es, et, h1, h2, h3, h4] <;> (first | omega | ((repeat' (refine And.intro ?_ ?_)) <;> (first | omega | exact decide_eq_false (by omega) | exact decide_eq_true (by omega)))))) ?_
      refine sxb hX [.r 13] [.F] 4000 rfl (by (simp [-List.getD_eq_getElem?_getD, -List.length_eq_zero_iff, conjP, addOP, es, et, ef, ha])) ?_
      refine sxb hX [.r 13] [.F] 4000 rfl (by (simp [-List.getD_eq_getElem?_getD, -List.length_eq_zero_iff, conjP, addOP, es, et, eb, hb, ewb])) ?_
      (refine ss_sub hX (T' := [(1, .slice 0 0 W.length W.length), (2, .ptr 1 0), (6, slV (opL (rN W i)) 2), (7, .int .i64 (i : Int)), (9, .int .i64 (blkV (W.getD (5 + i) 0)))]) (H' := [WO W, cfN, slE (opL (rN W i)) .i64 3]) [0, 1, 2] rfl rfl rfl rfl ?tt ?hh ?ot ?ok J; (case tt => (try simp only [es, et, Nat.add_zero, eb, ewb]); exact clhR); (case hh => exact clhR); (case ot => exact clkN); (case ok => exact clkN))
set_option maxHeartbeats 8000000 in
theorem rfin : SS hXRn (At ρ w) (Is (slV (opL (nmV W)) 1) [WO W, slE (opL (nmV W)) .i64 3]) ⟨[], [], Try.f36, Try.f36.ntmps, [WO W], contF Try.f36 8 [I], rT W.length 8 (nmV W), rH W (nmV W)⟩ := by
  have hX := hXRn
  unfold rT rH
  dsimp only [cfN]
  refine sx hX [] 4000 rfl (by (simp [-List.getD_eq_getElem?_getD, -List.length_eq_zero_iff, conjP])) ?_
  refine sx hX [.F] 4000 rfl (by (simp [-List.getD_eq_getElem?_getD, -List.length_eq_zero_iff, conjP, addOP])) ?_
  (refine ss_end hX [0, 2] rfl rfl trivial rfl rfl rfl rfl ?tt ?hh ?ot ?ok; (case tt => exact clhR); (case hh => exact clhR); (case ot => exact clkN); (case ok => exact clkN))
end
set_option maxHeartbeats 8000000 in
theorem rnamed_fn {W : List Int} (hW : (W.length : Int) = sizeV 1 4 8 4 2 6 2) (hl : 13 ≤ W.length) (hbd : ∀ j, j < 8 → 0 ≤ W.getD (5 + j) 0 ∧ W.getD (5 + j) 0 < 18446744073709551616) : Gives Try.prog 36 [C9 1 4 8 4 4 2 6 2 2, .slice 0 0 W.length W.length] [WO W] (Is (slV (opL (nmV W)) 1) [WO W, slE (opL (nmV W)) .i64 3]) := by
  have hX := hXRn
  have hr := right12
  refine gives_x hX (fn := Try.f36) rfl rfl rfl rfl fun ρ w => ?_
  refine sxb hX [.r 7] [] 4000 rfl (by (simp [-List.getD_eq_getElem?_getD, -List.length_eq_zero_iff, conjP])) ?_
  refine sxb hX [.r 7] [.F] 4000 rfl (by (simp [-List.getD_eq_getElem?_getD, -List.length_eq_zero_iff, conjP, hr])) ?_
  refine sxb hX [.r 7] [.F] 4000 rfl (by (simp [-List.getD_eq_getElem?_getD, -List.length_eq_zero_iff, conjP, addOP, hW])) ?_
  (refine sxb hX [.l] [] 400 rfl trivial ?_; refine ss_sub hX (T' := rT W.length 0 (rN W 0)) (H' := rH W (rN W 0)) [0, 1, 99] rfl rfl rfl rfl ?tt ?hh ?ot ?ok ?jj; (case tt => exact clhR); (case hh => exact clhR); (case ot => exact clkN); (case ok => exact clkN); (case jj => refine ss_loop hX (fun i => rT W.length i (rN W i)) (fun i => rH W (rN W i)) (fun i => i ≤ 8) (fun i => 8 - i) 0 (Nat.zero_le _) ?_; intro i hi I back; refine sxb hX [.r 8] [] 100 rfl trivial ?_; exact (Nat.lt_or_ge i 8).elim (fun q => rround hl q (hbd i q) (fun cs T H hs => back (i + 1) (by show i + 1 ≤ 8; omega) (by show 8 - (i + 1) < 8 - i; omega) cs T H hs)) (fun q => by have hi : i ≤ 8 := hi; obtain rfl : i = 8 := (by omega); exact rfin)))
end Go.Proofs.Ytfdkaakllceebaa
