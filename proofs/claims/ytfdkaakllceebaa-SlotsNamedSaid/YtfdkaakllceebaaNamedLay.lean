/- SlotsNamed: the words are laid. -/
import Derived.Test.YtfdkaakllceebaaNamedSeen
namespace Go.Proofs.Ytfdkaakllceebaa
open Go Go.Hx
set_option maxRecDepth 8000
abbrev slT (W z : List Int) (cap i : Nat) : List (Nat × SV) := [(0, .slice 0 0 z.length cap), (3, .tt), (4, .ptr 1 0), (5, .slice 2 0 W.length W.length), (6, slV (opL (alN z i)) 3), (7, .int .i64 (i : Int))]
abbrev slH (W z : List Int) (i : Nat) : List HE := [.obj (.winI .u64 z), cfN, WO (wdN W z i), slE (opL (alN z i)) .i64 3]
theorem take1 {x : Int} : List.take (mulS 1 1) (List.drop 0 [x]) = [x] := rfl
theorem lenA {l : List Int} {x : Int} : l.length + 1 = (l ++ [x]).length := by simp
theorem clhT {P : Prop} (h : P := by repeat' (first | exact rfl | exact trivial | exact sim_refl _ | exact simO_refl _ | exact sim_slVr rfl | exact subE_same rfl ren_slE | exact len_setN | exact lenA | assumption | refine And.intro ?_ ?_)) : P := h
section
variable {ρ : Nat → Nat × Nat} {w : World} {z W : List Int} {cap : Nat} {I : Act → World → Prop}
theorem al_no {i : Nat} (h : ¬ (0 < z.getD i 0 / 4294967296 ∧ 0 < z.getD i 0 % 4294967296)) (h0 : 0 ≤ z.getD i 0) : alN z (i + 1) = alN z i := by
  rw [alN, if_neg]
  generalize z.getD i 0 = x at *
  unfold okN clientV blkV
  rw [Bool.and_eq_true, decide_eq_true_eq, decide_eq_true_eq]
  omega
theorem al_yes {i : Nat} (h1 : 0 < z.getD i 0 / 4294967296) (h2 : 0 < z.getD i 0 % 4294967296) : alN z (i + 1) = alN z i ++ [z.getD i 0 % 4294967296] := by
  rw [alN, if_pos]
  · rfl
  · generalize z.getD i 0 = x at *
    unfold okN clientV blkV
    rw [Bool.and_eq_true, decide_eq_true_eq, decide_eq_true_eq]
    omega
set_option maxHeartbeats 8000000 in
theorem lay1 (hl : 13 ≤ W.length) (i : Nat) (hi : i < z.length) (hi8 : i < 8) (hz : 0 ≤ z.getD i 0 ∧ z.getD i 0 < 18446744073709551616)
    (bk : ∀ cs T H, Sub (FEnv Try.prog XNs.TE hXNs.te Try.f8 Try.f8.ntmps [.obj (.winI .u64 z)] (Is .tt [.obj (.winI .u64 z)]) ρ w) T H (slT W z cap (i + 1)) (slH W z (i + 1)) → SS hXNs (At ρ w) (Is .tt [.obj (.winI .u64 z)]) ⟨cs, [], Try.f8, Try.f8.ntmps, [.obj (.winI .u64 z)], downLq (contF Try.f8 6 [I]), T, H⟩) :
    SS hXNs (At ρ w) (Is .tt [.obj (.winI .u64 z)]) ⟨[], [], Try.f8, Try.f8.ntmps, [.obj (.winI .u64 z)], contF Try.f8 6 [I], slT W z cap i, slH W z i⟩ := by
  have hX := hXNs
  have hr := right12
  have h1 : (i : Int) < (z.length : Int) := by omega
  have h8 : (i : Int) < 8 := by omega
  have es : slotF 1 4 8 4 4 2 6 2 2 (i : Int) = 5 + (i : Int) := by rw [slot_at hi8]; omega
  have et : (5 + (i : Int)).toNat = 5 + i := by omega
  have hn : (wdN W z i).length = W.length := wdN_len i
  have hn2 : (wdN W z (i + 1)).length = W.length := wdN_len (i + 1)
  have h2 : 5 + (i : Int) < (W.length : Int) := by omega
  have h3 : (0 : Int) ≤ 5 + (i : Int) := by omega
  have h4 : 5 + i < W.length := by omega
  have ewi : IntKind.i64.wrap ((i : Int) + 1) = (i : Int) + 1 := wi64 (by omega) (by omega)
  have en : ((i + 1 : Nat) : Int) = (i : Int) + 1 := rfl
  have hal := alN_len (z := z) i
  have ew : wdN W z (i + 1) = (wdN W z i).set (5 + i) (z.getD i 0) := rfl
  have eb := and32 hz.1 hz.2
  have ewb : IntKind.i64.wrap (z.getD i 0 % 4294967296) = z.getD i 0 % 4294967296 := wi64 (by omega) (by omega)
  have ef : (z.getD i 0).fdiv (2 ^ min 32 IntKind.u64.bits) = z.getD i 0 / 4294967296 := by
    rw [show min 32 IntKind.u64.bits = 32 from rfl, Int.fdiv_eq_ediv_of_nonneg _ (by omega)]; rfl
  have hsl : (wdN W z i).length = ((wdN W z i).set (5 + i) (z.getD i 0)).length := by simp
  dsimp only [slT, slH, cfN] at bk ⊢
  rw [ew, en] at bk
  by_cases ha : z.getD i 0 / 4294967296 = 0
  · rw [al_no (by omega) hz.1] at bk
    refine sx hX [] 4000 rfl (by (simp [-List.getD_eq_getElem?_getD, -List.length_eq_zero_iff, conjP])) ?_
    refine sx hX [.T] 4000 rfl (by (simp [-List.getD_eq_getElem?_getD, -List.length_eq_zero_iff, conjP, addOP, h1])) ?_
    refine sx hX [.T] 4000 rfl (by (simp [-List.getD_eq_getElem?_getD, -List.length_eq_zero_iff, conjP, getH, HE.so, hr, h1, h8, es, et, hn, h2, h3, h4, Int.toNat_natCast] <;> (first | omega | ((repeat' (refine And.intro ?_ ?_)) <;> (first | omega | exact decide_eq_false (by omega) | exact decide_eq_true (by omega)))))) ?_
    refine sx hX [.F] 4000 rfl (by (simp [-List.getD_eq_getElem?_getD, -List.length_eq_zero_iff, conjP, addOP, Int.toNat_natCast, ha, ef])) ?_
    (refine bk _ _ _ (sub_of [0, 1, 2, 3] rfl rfl rfl rfl ?tt ?hh ?ot ?ok); (case tt => (try simp only [ewi]); exact clhT); (case hh => (try simp only [es, et, Nat.add_zero, Int.toNat_natCast]); exact clhT); (case ot => exact clkN); (case ok => exact clkN))
  · have ha' : 0 < z.getD i 0 / 4294967296 := by omega
    by_cases hb : z.getD i 0 % 4294967296 = 0
    · rw [al_no (by omega) hz.1] at bk
      refine sx hX [] 4000 rfl (by (simp [-List.getD_eq_getElem?_getD, -List.length_eq_zero_iff, conjP])) ?_
      refine sx hX [.T] 4000 rfl (by (simp [-List.getD_eq_getElem?_getD, -List.length_eq_zero_iff, conjP, addOP, h1])) ?_
      refine sx hX [.T] 4000 rfl (by (simp [-List.getD_eq_getElem?_getD, -List.length_eq_zero_iff, conjP, getH, HE.so, hr, h1, h8, es, et, hn, h2, h3, h4, Int.toNat_natCast] <;> (first | omega | ((repeat' (refine And.intro ?_ ?_)) <;> (first | omega | exact decide_eq_false (by omega) | exact decide_eq_true (by omega)))))) ?_
      refine sx hX [.T] 4000 rfl (by (simp [-List.getD_eq_getElem?_getD, -List.length_eq_zero_iff, conjP, h1, Int.toNat_natCast, ef, ha'] <;> (first | omega | ((repeat' (refine And.intro ?_ ?_)) <;> (first | omega | exact decide_eq_false (by omega) | exact decide_eq_true (by omega)))))) ?_
      refine sx hX [.F] 4000 rfl (by (simp [-List.getD_eq_getElem?_getD, -List.length_eq_zero_iff, conjP, addOP, Int.toNat_natCast, hb, eb])) ?_
      (refine bk _ _ _ (sub_of [0, 1, 2, 3] rfl rfl rfl rfl ?tt ?hh ?ot ?ok); (case tt => (try simp only [ewi]); exact clhT); (case hh => (try simp only [es, et, Nat.add_zero, Int.toNat_natCast]); exact clhT); (case ot => exact clkN); (case ok => exact clkN))
    · have hb' : 0 < z.getD i 0 % 4294967296 := by omega
      have ea := al_yes (z := z) (i := i) (by omega) (by omega)
      rw [ea, opL_app] at bk
      by_cases hc : alN z i = []
      · rw [hc] at bk ⊢
        rw [show opL ([] : List Int) = none from rfl]
        dsimp only [slV, slE] at bk ⊢
        refine sx hX [] 4000 rfl (by (simp [-List.getD_eq_getElem?_getD, -List.length_eq_zero_iff, conjP])) ?_
        refine sx hX [.T] 4000 rfl (by (simp [-List.getD_eq_getElem?_getD, -List.length_eq_zero_iff, conjP, addOP, h1])) ?_
        refine sx hX [.T] 4000 rfl (by (simp [-List.getD_eq_getElem?_getD, -List.length_eq_zero_iff, conjP, getH, HE.so, hr, h1, h8, es, et, hn, h2, h3, h4, Int.toNat_natCast] <;> (first | omega | ((repeat' (refine And.intro ?_ ?_)) <;> (first | omega | exact decide_eq_false (by omega) | exact decide_eq_true (by omega)))))) ?_
        refine sx hX [.T] 4000 rfl (by (simp [-List.getD_eq_getElem?_getD, -List.length_eq_zero_iff, conjP, h1, Int.toNat_natCast, ef, ha'] <;> (first | omega | ((repeat' (refine And.intro ?_ ?_)) <;> (first | omega | exact decide_eq_false (by omega) | exact decide_eq_true (by omega)))))) ?_
        refine sx hX [.T] 4000 rfl (by (simp [-List.getD_eq_getElem?_getD, -List.length_eq_zero_iff, conjP, h1, Int.toNat_natCast, eb, hb'] <;> (first | omega | ((repeat' (refine And.intro ?_ ?_)) <;> (first | omega | exact decide_eq_false (by omega) | exact decide_eq_true (by omega)))))) ?_
        (refine bk _ _ _ (sub_of [0, 1, 2, 5] rfl rfl rfl rfl ?tt ?hh ?ot ?ok); (case tt => (try simp only [ewi]); exact clhT); (case hh => (try simp only [es, et, Nat.add_zero, Int.toNat_natCast, eb, ewb, take1, List.nil_append]); exact clhT); (case ot => exact clkN); (case ok => exact clkN))
      · rw [opL_some hc]
        dsimp only [slV, slE] at bk ⊢
        refine sx hX [] 4000 rfl (by (simp [-List.getD_eq_getElem?_getD, -List.length_eq_zero_iff, conjP])) ?_
        refine sx hX [.T] 4000 rfl (by (simp [-List.getD_eq_getElem?_getD, -List.length_eq_zero_iff, conjP, addOP, h1])) ?_
        refine sx hX [.T] 4000 rfl (by (simp [-List.getD_eq_getElem?_getD, -List.length_eq_zero_iff, conjP, getH, HE.so, hr, h1, h8, es, et, hn, h2, h3, h4, Int.toNat_natCast] <;> (first | omega | ((repeat' (refine And.intro ?_ ?_)) <;> (first | omega | exact decide_eq_false (by omega) | exact decide_eq_true (by omega)))))) ?_
        refine sx hX [.T] 4000 rfl (by (simp [-List.getD_eq_getElem?_getD, -List.length_eq_zero_iff, conjP, h1, Int.toNat_natCast, ef, ha'] <;> (first | omega | ((repeat' (refine And.intro ?_ ?_)) <;> (first | omega | exact decide_eq_false (by omega) | exact decide_eq_true (by omega)))))) ?_
        refine sx hX [.T] 4000 rfl (by (simp [-List.getD_eq_getElem?_getD, -List.length_eq_zero_iff, conjP, h1, Int.toNat_natCast, eb, hb'] <;> (first | omega | ((repeat' (refine And.intro ?_ ?_)) <;> (first | omega | exact decide_eq_false (by omega) | exact decide_eq_true (by omega)))))) ?_
        (refine bk _ _ _ (sub_of [0, 1, 2, 5] rfl rfl rfl rfl ?tt ?hh ?ot ?ok); (case tt => (try simp only [ewi]); exact clhT); (case hh => (try simp only [es, et, Nat.add_zero, Int.toNat_natCast, eb, ewb, take1]); exact clhT); (case ot => exact clkN); (case ok => exact clkN))
end
end Go.Proofs.Ytfdkaakllceebaa
